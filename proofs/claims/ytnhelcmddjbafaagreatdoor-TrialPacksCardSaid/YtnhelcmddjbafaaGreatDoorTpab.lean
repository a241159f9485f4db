import Derived.Laws.BitsAllLaws
import Derived.LoopN
import Derived.MapKept
import Derived.Laws.AppendOwn
import Derived.Laws.AppendOwnNone
import Derived.ProofKit
import Derived.OpenShut
import Derived.ShutString
import Derived.ChangeOld
import Derived.Below
import Derived.Deep.Slices
import Derived.Laws.IdiomCopy
import Derived.Lib.ConvBytes
import Derived.Test.YtnhelcmddjbafaaGreatDoorTpsh
import Derived.Laws.BytesArg
import Derived.Test.YtnhelcmddjbafaaGreatDoorTpaa
set_option maxHeartbeats 4000000
set_option maxRecDepth 100000
open Go.Proofs.Tryz
namespace Go.Proofs.YtnhelcmddjbafaaGreatDoor
open Go.RowKit
namespace Mc
variable{dst:Option Tmp}{pos:String}{after:Array Edge}{guard:Option (Nat×Bool)}
theorem IY:ga prog 317=true:=by kernel_rfl
theorem Cz:dr prog 317=some 4:=by kernel_rfl
theorem K4 {eD:TypeId} {x:Operand} {a:Act} {w:World} {K:Act->World->Prop} {Q:Exit->Act->World->Prop} (hx:d' (a.eval x)=true) (hh:has w (aG (a.eval x)) (aH (a.eval x)) 4=true):
 Oper.wp prog ⟨dst,.load 317 x,eD,pos,after,guard⟩ a w K Q=K (a.put dst (.agg (gets w (aG (a.eval x)) (aH (a.eval x)) 4))) w:=aY 4 IY Cz hx hh
theorem Sv {ρ:Operand->Value} {eD:TypeId} {x:Operand} {w:World} (hx:d' (ρ x)=true) (hh:has w (aG (ρ x)) (aH (ρ x)) 4=true):
 (execOp ρ ⟨dst,.load 317 x,eD,pos,after,guard⟩).run prog w=.ok (.value (.agg (gets w (aG (ρ x)) (aH (ρ x)) 4))) w:=aD 4 IY Cz hx hh
theorem RD (w:World) (g off:Nat) (hh:has w g off 4=true):(loadVar 317 ⟨g,off,none⟩).run prog w=.ok (.agg (gets w g off 4)) w:=cD prog w _ g off 4 IY Cz hh
attribute [go_sem] IY Cz
attribute [go_sem↓high] K4 RD Sv
attribute [go_sem high] K4
structure St where (a b c d:Int)
abbrev St.cells (s:St):Array Value:=#[.int .u64 s.a,.int .u64 s.b,.int .u64 s.c,.int .u64 s.d]
attribute [go_sem] St.cells
def rotl (x:Int) (k:Nat):Int:=bits .or .u64 (IntKind.u64.wrap (x*2^k)) (x / 2^(64 - k))
def OR (x y:Int):Int:=IntKind.u64.wrap (x+y)
def tK (x y:Int):Int:=bits .xor .u64 x y
section
variable (x:Int) (w:World)
include x w
theorem aiW:Calls prog 309 #[.int .u64 x,.int .i64 32] w λe w'=>e=.returned (.int .u64 (rotl x 32))/\w=w':=by
 have hb:bits .and .u64 32 63=32:=by decide
 exact Qi
theorem aiV:Calls prog 309 #[.int .u64 x,.int .i64 24] w λe w'=>e=.returned (.int .u64 (rotl x 24))/\w=w':=by
 have hb:bits .and .u64 24 63=24:=by decide
 exact Qi
theorem aiU:Calls prog 309 #[.int .u64 x,.int .i64 16] w λe w'=>e=.returned (.int .u64 (rotl x 16))/\w=w':=by
 have hb:bits .and .u64 16 63=16:=by decide
 exact Qi
theorem aiX:Calls prog 309 #[.int .u64 x,.int .i64 63] w λe w'=>e=.returned (.int .u64 (rotl x 63))/\w=w':=by
 have hb:bits .and .u64 63 63=63:=by decide
 exact Qi
end
def rnd (s:St) (r:Int):St:=
 let a:=tK (OR s.a s.b) r
 let d:=rotl (tK s.d a) 32
 let c:=OR s.c d
 let b:=rotl (tK s.b c) 24
 let a:=OR a b
 let d:=rotl (tK d a) 16
 let c:=OR c d
 let b:=rotl (tK b c) 63
 ⟨a,b,c,d⟩
def NL:Nat->St->St|0,s=>s|n+1,s=>rnd (NL n s) (n+1)
def ajl (s:St):St:=NL 6 s
theorem Xp (b:Nat) (s:St) (w:World) (hb:ai w b 317 s.cells):
 Calls prog 278 #[.pointer (some ⟨b,0,none⟩)] w λe w'=>e=.returned (.tuple #[])/\ai w' b 317 (ajl s).cells/\Kept (·=b) w w':=by
 have hl:=ai.lt hb;go_enter func278,ntmps278;go_wp21;refine fH (λw1=>ai w1 b 317 s.cells) [(0,2),(1,2),(2,2),(3,1),(4,2),(5,2),(6,2),(7,1),(8,2),(9,2),(10,2),(11,1),(12,2),(13,2),(14,2),(15,1),(16,2),(17,2),(18,2),(19,2)] ?_;refine fI ?_
 repeat first|refine cx ?_|refine de hb (by intro w1 hS;have hc:=bC hS;exact fV) ?_|refine dc hb ?_
 refine XD ?_;go_wp21
 go_loop [2,3,4,5,23] (λt2 t3 t4 t5 i=>∃k:Nat,k<=6/\i=.int .u64 k/\t2=.int .u64 (NL k s).a/\t3=.int .u64 (NL k s).b/\t4=.int .u64 (NL k s).c/\t5=.int .u64 (NL k s).d) (λ_ _ _ _ i=>6 - (intOf i).toNat)
 case atStart=>exact⟨0,by omega,rfl,rfl,rfl,rfl,rfl⟩
 case round=>
  obtain⟨k,hk,rfl,rfl,rfl,rfl,rfl⟩:=hrel
  by_cases aP:k<6
  .go_wp21
   refine aoT (aiW _ _) ?_;go_wp21;refine aoT (aiV _ _) ?_;go_wp21;refine aoT (aiU _ _) ?_;go_wp21;refine aoT (aiX _ _) ?_;go_wp21
   go_round
   case rel=>exact⟨k+1,by omega,by go_num,rfl,rfl,rfl,rfl⟩
   case measure=>simp [intOf];omega
  .have yj:k=6:=by omega
   have hh:=bH (ai.drew hb);have hm:=ai.aC (ai.drew hb);subst yj;go_wp21;go_end0;refine⟨rfl,?_,?_⟩
   .have:=ai.cw (ai.drew hb) 0 (NL 6 s).cells
    exact this
   ·((repeat' (with_reducible (first|apply Kept.drew|apply Kept.drewN|apply Kept.alloc|apply Kept.setCell|apply Kept.putAt|exact kR _ _)))<;>(intro aP;first|rfl|(simp at aP;done)|(exfalso;simp at aP;omega)|omega))
theorem rZ (k:Int) (w:World):Calls prog 220 #[.int .u64 k] w λe w'=>e=.returned (.agg (St.cells ⟨2611923443488327891,1376283091369227076,11820040416388919760,k⟩))/\al w w':=by
 go_enter func220,ntmps220
 go_wp2
 refine bu results220 rfl rfl IY (by exact Cz) (ai.ea _ _ _ _ aB) ⟨rfl,?_⟩
 ((repeat' (with_reducible (first|apply Kept.drew|apply Kept.drewN|apply Kept.alloc|apply Kept.setCell|apply Kept.putAt|exact kR _ _)))<;>(intro aP;first|rfl|(simp at aP;done)|(exfalso;simp at aP;omega)|omega))
def taken (s:St) (n:Int):St:=ajl {s with a:=tK s.a n}
theorem jC (b:Nat) (s:St) (n:Int) (w:World) (hb:ai w b 317 s.cells):
 Calls prog 221 #[.pointer (some ⟨b,0,none⟩),.int .u64 n] w λe w'=>e=.returned (.tuple #[])/\ai w' b 317 (taken s n).cells/\Kept (·=b) w w':=by
 go_enter func221,ntmps221;go_wp21;refine fH (λw1=>ai w1 b 317 s.cells) [(0,2),(1,2),(2,2),(3,1),(4,2),(5,2),(6,2),(7,2),(8,0)] ?_;refine fI ?_
 repeat first|refine cx ?_|refine de hb (by intro w1 hS;have hc:=bC hS;exact fV) ?_|refine dc hb ?_
 have hc:=bC (ai.drew hb);have hf:=ai.frozen (ai.drew hb);refine fx ?_;go_wp21;have hJ:ai (w.drew.setCell ⟨b,0,none⟩ (.int .u64 (bits .xor .u64 s.a n))) b 317 (St.cells {s with a:=tK s.a n}):=ai.eK (ai.drew hb) 0 _;refine(Xp b _ _ hJ).mono ?_;rintro e w2 ⟨rfl,jo,bd⟩;go_wp21;go_end0;refine⟨rfl,jo,Kept.trans ?_ bd⟩
 ((repeat' (with_reducible (first|apply Kept.drew|apply Kept.drewN|apply Kept.alloc|apply Kept.setCell|apply Kept.putAt|exact kR _ _)))<;>(intro aP;first|rfl|(simp at aP;done)|(exfalso;simp at aP;omega)|omega))
def Bh (d:Dg):Nat->Int|0=>d.x0|1=>d.x1|2=>d.x2|3=>d.x3|4=>d.x4|5=>d.x5|6=>d.x6|7=>d.x7|_=>0
def Dg.ok (d:Dg):Prop:=∀j,0<=Bh d j/\Bh d j<=255
def Ca (d:Dg):Nat->Int|0=>0|k+1=>Ca d k+Bh d k*2^(8*k)
def B' (d:Dg):Int:=Ca d 8
theorem aeG (d:Dg) (k:Nat) (hk:k<8) (w:World):(Instr.index 25 (.agg #[.int .u8 d.x0,.int .u8 d.x1,.int .u8 d.x2,.int .u8 d.x3,.int .u8 d.x4,.int .u8 d.x5,.int .u8 d.x6,.int .u8 d.x7]) (.int .i64 k)).run prog w=.ok (.int .u8 (Bh d k)) w:=by
 rcases(by omega:k=0∨k=1∨k=2∨k=3∨k=4∨k=5∨k=6∨k=7)with rfl|rfl|rfl|rfl|rfl|rfl|rfl|rfl<;>kernel_rfl
theorem lP (n:Nat):((2^n:Nat):Int)=(2:Int)^n:=by simp
theorem u64_in {x:Int} (h0:0<=x) (h1:x<18446744073709551616):IntKind.u64.wrap x=x:=by
 simp only [IntKind.wrap,IntKind.signed,IntKind.bits];simp
 omega
theorem PR (m x:Int) (j:Nat) (hj:j<=56) (hm0:0<=m) (hm:m<2^j) (aF:0<=x) (hx:x<=255):bits .or .u64 m (IntKind.u64.wrap (x*2^j))=m+x*2^j/\m+x*2^j<2^(j+8):=by
 obtain⟨a,rfl⟩:=Int.eq_ofNat_of_zero_le hm0;obtain⟨b,rfl⟩:=Int.eq_ofNat_of_zero_le aF;rw [<-lP]at hm⊢;rw [<-lP];have ha:a<2^j:=by omega
 have hb:b<=255:=by omega
 have hp:(2:Nat)^(j+8)=2^j*256:=Nat.pow_add 2 j 8;have hq:(2:Nat)^j<=2^56:=Nat.pow_le_pow_right ad hj;have hbp:b*2^j<=255*2^j:=Nat.mul_le_mul_right _ hb;have e1:((b:Int)*((2^j:Nat):Int))=((b*2^j:Nat):Int):=by simp
 rw [e1,u64_in ad ad,u64_or_nat _ _ ad ad]
 have e2:a|||b*2^j=a+b*2^j:=by
  have:=Nat.two_pow_add_eq_or_of_lt ha b;rw [Nat.or_comm,Nat.mul_comm b,<-this,Nat.add_comm]
 rw [e2];refine⟨by simp,by rw [hp];omega⟩
theorem GG {d:Dg} (h:d.ok):∀k,k<=8->0<=Ca d k/\Ca d k<2^(8*k)
 |0,_=>by simp [Ca]
 |k+1,hk=>by
  have ih:=GG h k ad;have hs:=PR (Ca d k) (Bh d k) (8*k) ad ih.1 ih.2 (h k).1 (h k).2;have hp:(0:Int)<=Bh d k*2^(8*k):=Int.mul_nonneg (h k).1 (by rw [<-lP];exact Int.natCast_nonneg _);refine⟨by simp only [Ca];omega,?_⟩;have:=hs.2;rw [show 8*(k+1)=8*k+8 by omega];exact this
theorem RY {d:Dg} (h:d.ok) {k:Nat} (hk:k<8):bits .or .u64 (Ca d k) (IntKind.u64.wrap (Bh d k*2^(8*k)))=Ca d (k+1):=
 (PR (Ca d k) (Bh d k) (8*k) ad (GG h k ad).1 (GG h k ad).2 (h k).1 (h k).2).1
theorem p8 (d:Dg) (hd:d.ok) (w:World):Calls prog 222 #[.agg #[.int .u8 d.x0,.int .u8 d.x1,.int .u8 d.x2,.int .u8 d.x3,.int .u8 d.x4,.int .u8 d.x5,.int .u8 d.x6,.int .u8 d.x7]] w λe w'=>e=.returned (.int .u64 (B' d))/\al w w':=by
 have HD:=J hd;clear hd;go_enter func222,ntmps222
 go_wp2
 go_loop [3,7] (λn i=>∃k:Nat,k<=8/\i=.int .i64 k/\n=.int .u64 (Ca d k)) (λ_ i=>8 - (intOf i).toNat)
 case atStart=>exact⟨0,by omega,rfl,rfl⟩
 case round=>
  obtain⟨k,hk,rfl,rfl⟩:=hrel
  by_cases aP:k<8
  .have hx:=aeG d k aP
   have hb:=HD.o k
   go_wp2
   go_round
   case rel=>exact⟨k+1,by omega,by go_num,by rw [RY HD.o aP]⟩
   case measure=>simp [intOf];omega
  .have yj:k=8:=by omega
   subst yj
   go_wp2
   exact akT
def DT (n:Int):Dg:=⟨n%256,n / 256%256,n / 65536%256,n / 16777216%256,n / 4294967296%256,n / 1099511627776%256,n / 281474976710656%256,n / 72057594037927936%256⟩
theorem Bg (n:Int):(DT n).ok:=by
 intro j
 match j with
 |0=>simp only [Bh,DT];omega
 |1=>simp only [Bh,DT];omega
 |2=>simp only [Bh,DT];omega
 |3=>simp only [Bh,DT];omega
 |4=>simp only [Bh,DT];omega
 |5=>simp only [Bh,DT];omega
 |6=>simp only [Bh,DT];omega
 |7=>simp only [Bh,DT];omega
 |n+8=>simp [Bh]
theorem adT:Dg.zero.ok:=by
 intro j
 match j with
 |0|1|2|3|4|5|6|7=>simp [Bh]
 |n+8=>simp [Bh]
theorem lz (n:Int) (w:World) (_h0:0<=n):Calls prog 9 #[.int .u64 n] w λe w'=>e=.returned (.agg (DT n).cells)/\al w w':=by
 go_enter func9,ntmps9
 go_wp2
 refine wp_loop_rounds 9 ?_
 iterate 9 (rw [rounds_succ];go_wp2)
 refine bu results9 rfl rfl dU kH (ai.alloc (ai.ea _ _ _ _ aB) _) ⟨rfl,?_⟩
 ((repeat' (with_reducible (first|apply Kept.drew|apply Kept.drewN|apply Kept.alloc|apply Kept.setCell|apply Kept.putAt|exact kR _ _)))<;>(intro aP;first|rfl|(simp at aP;done)|(exfalso;simp at aP;omega)|omega))
theorem S6 (x:Int):0<=IntKind.u64.wrap x/\IntKind.u64.wrap x<18446744073709551616:=by
 simp only [IntKind.wrap,IntKind.signed,IntKind.bits];simp
 omega
theorem XH (x y:Int):0<=tK x y/\tK x y<18446744073709551616:=S6 _
def out (s:St):Dg:=DT (tK s.a s.c)
theorem Ny (s:St):(out s).ok:=Bg _
theorem sj (b:Nat) (s:St) (w:World) (hb:ai w b 317 s.cells):
 Calls prog 223 #[.pointer (some ⟨b,0,none⟩)] w λe w'=>e=.returned (.agg (out s).cells)/\al w w':=by
 have hl:=ai.lt hb;have h0:=(XH s.a s.c).1;have H0:=J h0;clear h0;have hr:=bN w 25 Dg.zero.cells;have hJ:=ai.alloc hb (.cells Dg.zero.cells 25);go_enter func223,ntmps223;go_wp21;refine fH (λw1=>al (w.alloc (.cells Dg.zero.cells 25)) w1) [(0,2),(1,2),(2,2),(3,1),(4,2),(5,2),(6,2),(7,1),(8,2),(9,0),(10,0)] ?_;refine fI ?_
 repeat first|refine cx ?_|refine de fU (by intro w1 hS;have d1:=bX hJ hS;have hc:=bC d1;exact fV) ?_|refine dc fU ?_
 refine au (λK hK=>?_);go_simp;go_wp21;refine aoS (lz _ _ H0.o) λw2 bd=>?_;have BH:al (w.alloc (.cells Dg.zero.cells 25)) w2:=((kR _ _).drew).trans bd;refine hK.out _ _ (λ_=>BH) ?_;clear hK K;have iV:=bX hr BH;have hh:=bH iV;have hm:=ai.aC iV;refine fx ?_
 go_wp2
 refine bu results223 rfl rfl dU kH (ai.cw iV _ _) ⟨rfl,?_⟩;exact Kept.putAt ((dM w _).trans BH) _ _ _ (λh=>by omega)
end Mc
section
variable{sz:Nat}{v':Value}{w1:World}
inductive sZ where
 |nil
 |op (i k:Nat) (r:sZ)
 |fork (i:Nat) (p:sZ) (j:Nat) (q:sZ)
inductive Pl where
 |nil
 |op (i k:Nat) (o:Oper) (r:Pl)
 |fork (i:Nat) (o:Oper) (p:Pl) (j:Nat) (o':Oper) (q:Pl)
def sZ.fill (l:List Oper):sZ->Pl
 | .nil=>.nil
 | .op i k r=>.op i k (l.getD i nop) (r.fill l)
 | .fork i p j q=>.fork i (l.getD i nop) (p.fill l) j (l.getD j nop) (q.fill l)
def sZ.st:sZ->List Nat
 | .nil=>[]
 | .op i k r=>if k=1 then i::r.st else r.st
 | .fork _ p _ q=>p.st++q.st
def sZ.len:sZ->Nat
 | .nil=>0
 | .op _ _ r=>r.len+1
 | .fork _ p _ q=>max p.len q.len+1
section
variable {P:Program} {ops:Array Oper} {Q:Exit->Act->World->Prop} {S:World->Prop}
def U2 (md:Region.Mode) (ops:Array Oper) (st:List Nat) (j:Nat):Bool:=
 st.all λi=>i==j||(o3 md ops ops.size (tS md ops j)).testBit i
theorem U3 {md:Region.Mode} {st:List Nat} {i j:Nat} {listed:Array Bool} (hf:i∈st) (hd:Down md ops listed) (hj:j∈Region.ready md ops listed) (iF:j≠i) (h:U2 md ops st j=true):
 listed.getD i false=true:=by
 exact akN
def sZ.ok (md:Region.Mode) (ops:Array Oper):sZ->Array Bool->Bool
 | .nil,listed=>(Region.ready md ops listed).isEmpty
 | .op i 0 r,listed=>(Region.ready md ops listed==[i])&&decide (i<ops.size)&&r.ok md ops (listed.setIfInBounds i true)
 | .op i (_+1) r,listed=>Region.free md ops listed i&&(Region.ready md ops listed).contains i&&decide (i<ops.size)&&r.ok md ops (listed.setIfInBounds i true)
 | .fork i p j q,listed=>(Region.ready md ops listed==[i,j])&&decide (i<ops.size)&&decide (j<ops.size)&&p.ok md ops (listed.setIfInBounds i true)&&q.ok md ops (listed.setIfInBounds j true)
def iy (P:Program) (ops:Array Oper) (Q:Exit->Act->World->Prop) (S:World->Prop) (st:List Nat):Pl->Act->World->Prop
 | .nil,a,w=>Q .normal a w
 | .op k 0 o r,a,w=>
  if Region.wanted o (yielded ops a.tmps)then o.wp P a w (λa' w'=>(U2 .any ops st k=true∨(S w->S w'))/\iy P ops Q S st r a' w') (tG Q)∨(o.asks P a w/\LetsOut (tG Q))
  else iy P ops Q S st r (a.put o.dst undef) w
 | .op _ 1 o r,a,w=>S w/\∃v,YieldsIf P ops S o v a/\iy P ops Q S st r (a.put o.dst v) w
 | .op _ (_+2) o r,a,w=>∃v,YieldsIf P ops (λ_=>True) o v a/\iy P ops Q S st r (a.put o.dst v) w
 | .fork k o r k' o' r',a,w=>
  (if Region.wanted o (yielded ops a.tmps)then o.wp P a w (λa' w'=>(U2 .any ops st k=true∨(S w->S w'))/\iy P ops Q S st r a' w') (tG Q)∨(o.asks P a w/\LetsOut (tG Q))
  else iy P ops Q S st r (a.put o.dst undef) w)/\
  (if Region.wanted o' (yielded ops a.tmps)then o'.wp P a w (λa' w'=>(U2 .any ops st k'=true∨(S w->S w'))/\iy P ops Q S st r' a' w') (tG Q)∨(o'.asks P a w/\LetsOut (tG Q))
  else iy P ops Q S st r' (a.put o'.dst undef) w)
theorem getD_some {l:List Oper} {i:Nat} (h:i<l.toArray.size):l.toArray[i]?=some (l.getD i nop):=by
 have h':i<l.length:=by simpa using h
 simp [List.getD,List.getElem?_eq_getElem h']
theorem Nt {wO:Nat->Bool} {j:Nat}:∀(e:Exit) (a:Act) (w:World),tG Q e a w->QL (tG Q) wO j e a w:=λe a w h=>by
 unfold QL
 split
 .exact h
 .cases e<;>exact h
theorem jd {l:List Oper} {st:List Nat} (hs:Region.noSelect l.toArray=true):∀(p:sZ) (fuel:Nat) (listed:Array Bool) (a:Act) (w:World),p.len<=fuel->(∀i∈p.st,i∈st)->Down .any l.toArray listed->
 p.ok .any l.toArray listed=true->iy P l.toArray Q S st (p.fill l) a w->wpAnyH P .any l.toArray (tG Q) S (U2 .any l.toArray st) (λ_=>false) fuel listed a w
 | .nil,fuel,listed,a,w,_,_,_,hB,h=>wpAnyH_done (Q:=tG Q) (by simpa [sZ.ok]using hB) h fuel
 | .op _ _ _,0,listed,a,w,hf,_,_,_,_=>by simp [sZ.len]at hf
 | .fork _ _ _ _,0,listed,a,w,hf,_,_,_,_=>by simp [sZ.len]at hf
 | .op i 1 r,fuel+1,listed,a,w,hf,hr,qN,hB,h=>by
  obtain⟨hS,v,hy,h⟩:=h;simp only [sZ.ok,gR,jP]at hB;simp only [sZ.st,if_true]at hr;have ho:=getD_some hB.1.2
  exact wpAnyH_first ho (Region.noSelect_spec hs) (λ_ _ _ _ _ hx=>by cases hx) (λj l hd hj iF hx=>U3 (hr _ aB) hd hj iF hx) fuel listed a w qN (Region.free_spec ho hB.1.1.1) (by simpa using hB.1.1.2) hy hS
   (jd hs r fuel _ _ w (by simpa [sZ.len]using hf) (λp hp=>hr p (by simp [hp])) (qN.set (by simpa using hB.1.1.2)) hB.2 h)
 | .op i (n+2) r,fuel+1,listed,a,w,hf,hr,qN,hB,h=>by
  obtain⟨v,hy,h⟩:=h;simp only [sZ.ok,gR,jP]at hB;have ho:=getD_some hB.1.2
  exact yT ho (Region.noSelect_spec hs) (λ_ _ _ _ _ hx=>by cases hx) fuel listed a w qN (Region.free_spec ho hB.1.1.1) (by simpa using hB.1.1.2) hy
   (jd hs r fuel _ _ w (by simpa [sZ.len]using hf) (λp hp=>hr p (by simp [sZ.st,hp])) (qN.set (by simpa using hB.1.1.2)) hB.2 h)
 | .op i 0 r,fuel+1,listed,a,w,hf,hr,qN,hB,h=>by
  simp only [sZ.ok,gR,beq_iff_eq,jP]at hB;have ho:=getD_some hB.1.2;refine wpAnyH_all hB.1.1 aB λj hj=>?_;obtain rfl:j=i:=by simpa using hj
  have h1:wpOp P l.toArray (tG Q) j (λa' w'=>(U2 .any l.toArray st j=true∨(S w->S w'))/\iy P l.toArray Q S st (r.fill l) a' w') a w:=by
   unfold wpOp;rw [ho];unfold sZ.fill iy at h
   by_cases hw:Region.wanted (l.getD j nop) (yielded l.toArray a.tmps)=true
   .rw [ak hw]at h;simp only [ak hw];exact h
   .rw [af hw]at h;simp only [af hw];exact⟨.inr id,h⟩
  exact wpOp_mono (λa' w' h'=>⟨h'.1,jd hs r fuel _ a' w' (by simpa [sZ.len]using hf) (λp hp=>hr p (by simp [sZ.st,hp])) (qN.set (by rw [hB.1.1];simp)) hB.2 h'.2⟩) (qs Nt h1)
 | .fork i p j q,fuel+1,listed,a,w,hf,hr,qN,hB,h=>by
  simp only [sZ.ok,gR,beq_iff_eq,jP]at hB;obtain⟨⟨⟨⟨hrd,hi⟩,hj⟩,hp⟩,hq⟩:=hB;have YQ:=getD_some hi;have Rr:=getD_some hj;have hlen:max p.len q.len<=fuel:=by simpa [sZ.len]using hf
  unfold sZ.fill iy at h;refine wpAnyH_all hrd aB λk hk=>?_
  rcases(by simpa using hk:k=i∨k=j)with rfl|rfl
  .have h1:wpOp P l.toArray (tG Q) k (λa' w'=>(U2 .any l.toArray st k=true∨(S w->S w'))/\iy P l.toArray Q S st (p.fill l) a' w') a w:=by
    unfold wpOp;rw [YQ];have h:=h.1;exact acM
   exact wpOp_mono (λa' w' h'=>⟨h'.1,jd hs p fuel _ a' w' ad (λx hx=>hr x (by simp [sZ.st,hx])) (qN.set (by rw [hrd];simp)) hp h'.2⟩) (qs Nt h1)
  .have h1:wpOp P l.toArray (tG Q) k (λa' w'=>(U2 .any l.toArray st k=true∨(S w->S w'))/\iy P l.toArray Q S st (q.fill l) a' w') a w:=by
    unfold wpOp;rw [Rr];have h:=h.2;exact acM
   exact wpOp_mono (λa' w' h'=>⟨h'.1,jd hs q fuel _ a' w' ad (λx hx=>hr x (by simp [sZ.st,hx])) (qN.set (by rw [hrd];simp)) hq h'.2⟩) (qs Nt h1)
theorem K6 {id:Nat} {a:Act} {w:World} {l:List Oper} (S:World->Prop) (p:sZ) (hm:P.follows .mixedOrders=true) (hs:Region.noSelect l.toArray=true)
 (hB:p.ok .any l.toArray (Array.replicate l.toArray.size false)=true) (ub:decide (p.len<=l.length)=true)
 (h:∀p',p'=p.fill l->iy P l.toArray Q S p.st p' a w.drew):(Code.region id l.toArray true).wp P Q a w:=
 Code.wp_mono tG.imp (wp_region_any hm (uu _ _ _ _ (jd hs p _ _ a _ (by simpa using ub) (λ_ h=>h) (Down.init _) hB (h _ rfl))))
theorem WU {id:Nat} {a:Act} {w:World} {l:List Oper} (S:World->Prop) (p:sZ) (h:∀p',p'=p.fill l->iy P l.toArray Q S p.st p' a w.drew) (hm:P.follows .mixedOrders=true:=by kernel_rfl) (hs:Region.noSelect l.toArray=true:=by kernel_rfl) (hB:p.ok .any l.toArray (Array.replicate l.toArray.size false)=true:=by kernel_rfl) (ub:decide (p.len<=l.length)=true:=by kernel_rfl):(Code.region id l.toArray true).wp P Q a w:=K6 S p hm hs hB ub h
variable {st:List Nat} {k:Nat} {r:Pl} {a:Act} {w:World} {o:Oper}
theorem afn (h:Q .normal a w):iy P ops Q S st .nil a w:=h
theorem c_ {v:Value} (hS:S w) (hw:Region.wanted o (yielded ops a.tmps)=true)
 (hy:∀w',S w'->(execOp a.eval o).run P w'=.ok (.value v) w') (h:∀K:Act->World->Prop,(∀a w,iy P ops Q S st r a w->K a w)->K (a.put o.dst v) w):iy P ops Q S st (.op k 1 o r) a w:=
 ⟨hS,v,.inl ⟨hw,hy⟩,h _ (λ_ _ h=>h)⟩
theorem cZ (hS:S w) (hw:Region.wanted o (yielded ops a.tmps)=false)
 (h:∀K:Act->World->Prop,(∀a w,iy P ops Q S st r a w->K a w)->K (a.put o.dst undef) w):iy P ops Q S st (.op k 1 o r) a w:=
 ⟨hS,undef,.inr ⟨hw,rfl⟩,h _ (λ_ _ h=>h)⟩
theorem abe {v:Value} (hw:Region.wanted o (yielded ops a.tmps)=true)
 (hy:∀w',(execOp a.eval o).run P w'=.ok (.value v) w') (h:∀K:Act->World->Prop,(∀a w,iy P ops Q S st r a w->K a w)->K (a.put o.dst v) w):iy P ops Q S st (.op k 2 o r) a w:=
 ⟨v,.inl ⟨hw,λw _=>hy w⟩,h _ (λ_ _ h=>h)⟩
theorem abf (hw:Region.wanted o (yielded ops a.tmps)=false)
 (h:∀K:Act->World->Prop,(∀a w,iy P ops Q S st r a w->K a w)->K (a.put o.dst undef) w):iy P ops Q S st (.op k 2 o r) a w:=
 ⟨undef,.inr ⟨hw,rfl⟩,h _ (λ_ _ h=>h)⟩
theorem ci (h:∀K:Act->World->Prop,Shut (∀a' w',(S w->S w')->iy P ops Q S st r a' w'->K a' w')->if Region.wanted o (yielded ops a.tmps)=true then Oper.wp P o a w K (tG Q)else K (a.put o.dst undef) w):
 iy P ops Q S st (.op k 0 o r) a w:=by
 unfold iy
 split
 .rename_i hw
  have h:=h (λa' w'=>(U2 .any ops st k=true∨(S w->S w'))/\iy P ops Q S st r a' w') (λa' w' hS h=>⟨.inr hS,h⟩);rw [ak hw]at h;exact .inl h
 .rename_i hw
  have h:=h (λa' w'=>iy P ops Q S st r a' w') (λa' w' _ h=>h);rw [af hw]at h;exact h
theorem afm (hx:U2 .any ops st k=true)
 (h:∀K:Act->World->Prop,Shut (∀a' w',iy P ops Q S st r a' w'->K a' w')->if Region.wanted o (yielded ops a.tmps)=true then Oper.wp P o a w K (tG Q)else K (a.put o.dst undef) w):
 iy P ops Q S st (.op k 0 o r) a w:=by
 unfold iy
 split
 .rename_i hw
  have h:=h (λa' w'=>(U2 .any ops st k=true∨(S w->S w'))/\iy P ops Q S st r a' w') (λa' w' h=>⟨.inl hx,h⟩);rw [ak hw]at h;exact .inl h
 .rename_i hw
  have h:=h (λa' w'=>iy P ops Q S st r a' w') (λa' w' h=>h);rw [af hw]at h;exact h
theorem gQ {k':Nat} {o':Oper} {r':Pl} (h:iy P ops Q S st (.op k 0 o r) a w) (h':iy P ops Q S st (.op k' 0 o' r') a w):iy P ops Q S st (.fork k o r k' o' r') a w:=⟨h,h'⟩
end
def dy (w:World) (g:Nat) (f:ByteArray->Option Value):Prop:=
 ∃es clock,w.heap[g]?=some (.map es clock)/\(∀x∈es.toList,MapKept.IsKey .string x.key)/\(es.toList.map (·.key)).Nodup/\∀s v,f s=some v↔∃x∈es.toList,x.key=.string s/\x.val=v
section
variable {P:Program} {w w':World} {g:Nat} {f:ByteArray->Option Value} {mt kt et:TypeId}
theorem dy.lt (h:dy w g f):g<w.heap.size:=by
 obtain⟨_,_,hb,_⟩:=h;exact(Array.getElem?_eq_some_iff.1 hb).1
theorem dy.kept {S:Nat->Prop} (h:dy w g f) (hk:Kept S w w') (hs:¬S g):dy w' g f:=by
 have hl:=h.lt;obtain⟨es,clock,hb,r⟩:=h;exact⟨es,clock,(hk.block g hl hs).trans hb,r⟩
theorem dy.ext (h:dy w g f) (hk:al w w'):dy w' g f:=h.kept hk (λf=>f)
theorem dy.nR {f':ByteArray->Option Value} (h:dy w g f) (e:∀s,f s=f' s):dy w g f':=by
 obtain⟨es,clock,hb,hk,hn,hm⟩:=h;exact⟨es,clock,hb,hk,hn,λs v=>by rw [<-e];exact hm s v⟩
theorem dy.made (w:World):dy (w.alloc (.map #[] 0)) w.heap.size (λ_=>none):=
 ⟨#[],0,(MapKept.heap_alloc w _).1,by simp,by simp,by simp⟩
theorem mK (s:ByteArray):MapKept.IsKey .string (.string s):=by simp [MapKept.IsKey]
theorem dy.find (h:dy w g f) (s:ByteArray):∃es clock,w.heap[g]?=some (.map es clock)/\(∀x∈es.toList,MapKept.IsKey .string x.key)/\(es.toList.map (·.key)).Nodup/\(∀s v,f s=some v↔∃x∈es.toList,x.key=.string s/\x.val=v)/\
 ((Instr.findNow .string (.string s) es.toList 0=some none/\f s=none/\∀x∈es.toList,x.key≠ .string s)∨∃j e,Instr.findNow .string (.string s) es.toList 0=some (some (j,e.val))/\es.toList[j]?=some e/\e.key=.string s/\f s=some e.val):=by
 obtain⟨es,clock,hb,hk,hn,hm⟩:=h;refine⟨es,clock,hb,hk,hn,hm,?_⟩
 rcases MapKept.findNow_spec (mK s) es.toList 0 hk with⟨h1,h2⟩|⟨j,e,h1,h2,h3⟩
 .refine .inl ⟨h1,?_,h2⟩
  cases hf:f s with
  |none=>rfl
  |some v=>
   obtain⟨x,hx,he,_⟩:=(hm s v).1 hf;exact absurd he (h2 x hx)
 .rw [dT]at h1
  exact .inr ⟨j,e,h1,h2,h3,(hm s e.val).2 ⟨e,List.mem_of_getElem? h2,h3,rfl⟩⟩
theorem dy.look (h:dy w g f) (hu:P.underlying mt=some (.map kt et)) (hk:P.underlying kt=some .string) {z:Value} (hz:∀w:World,(zeroValue et).run P w=.ok z w) (s:ByteArray):
 (Instr.lookup mt (.map (some g)) (.string s) false).run P w=.ok ((f s).getD z) w:=by
 exact akH
theorem dy.look_ok (h:dy w g f) (hu:P.underlying mt=some (.map kt et)) (hk:P.underlying kt=some .string) {z:Value} (hz:∀w:World,(zeroValue et).run P w=.ok z w) (s:ByteArray):
 (Instr.lookup mt (.map (some g)) (.string s) true).run P w=.ok (.tuple #[(f s).getD z,.bool (f s).isSome]) w:=by
 exact akH
theorem pj {o:Obj}:Kept (·=g) w {w with heap:=w.heap.setIfInBounds g o}:=
 ⟨rfl,rfl,rfl,by simp,λj _ hn=>by
  show(w.heap.setIfInBounds g o)[j]?=_;rw [Array.getElem?_setIfInBounds_ne (λe=>hn e.symm)]⟩
theorem dy.put (h:dy w g f) (hu:P.underlying mt=some (.map kt et)) (hk:P.underlying kt=some .string) (s:ByteArray) (v:Value):
 ∃w',(Instr.mapUpdate mt (.map (some g)) (.string s) v).run P w=.ok () w'/\dy w' g (λt=>if t=s then some v else f t)/\Kept (·=g) w w':=by
 obtain⟨es,clock,hb,hks,hn,hm,⟨h1,hf,zH⟩|⟨j,e,h1,h2,h3,h4⟩⟩:=h.find s
 .refine⟨{w with heap:=w.heap.setIfInBounds g (.map (es.push ⟨.string s,v,clock⟩) (clock+1))},?_,⟨_,_,(MapKept.heap_set hb).1,?_,?_,?_⟩,pj⟩
  .simp [Instr.mapUpdate,run_underlying hu,MapKept.run_getObj_map hb,MapKept.run_checkKey hk (mK s),MapKept.run_findKey hk h1,MapKept.run_setObj_map _ hb,Result.andThen]
  .intro x hx
   simp only [Array.toList_push,lr,List.mem_singleton]at hx
   rcases hx with hx|rfl
   .exact hks x hx
   .exact mK s
  .rw [Array.toList_push,qy]
   refine List.nodup_append.2 ⟨hn,by simp,λa ha b jw e=>?_⟩;obtain⟨x,hx,rfl⟩:=List.mem_map.1 ha;simp at jw;subst jw;exact zH x hx e
  .intro t u
   show(if t=s then some v else f t)=some u↔_;simp only [Array.toList_push,lr,List.mem_singleton]
   by_cases e:t=s
   .subst e
    rw [ak rfl]
    constructor
    .intro q
     cases q
     exact⟨_,.inr rfl,rfl,rfl⟩
    .rintro⟨x,hx|rfl,iP,qY⟩
     .exact absurd iP (zH x hx)
     .rw [<-qY]
   .rw [af e,hm]
    constructor
    .rintro⟨x,hx,iP,qY⟩
     exact⟨x,.inl hx,iP,qY⟩
    .rintro⟨x,hx|rfl,iP,qY⟩
     .exact⟨x,hx,iP,qY⟩
     .injection iP with iP
      exact absurd iP.symm e
 .have hj:es[j]?=some e:=by simpa using h2
  have VH:∀e',es[j]?=some e'->({e' with key:=.string s,val:=v}:MapEntry).key=e'.key:=λe' Vx=>by rw [hj]at Vx;cases Vx;exact h3.symm
  have d_:j<es.size:=(Array.getElem?_eq_some_iff.1 hj).1;refine⟨{w with heap:=w.heap.setIfInBounds g (.map (es.modify j λe=>{e with key:=.string s,val:=v}) clock)},?_,⟨_,_,(MapKept.heap_set hb).1,MapKept.isKey_modify hks _ _ VH,?_,?_⟩,pj⟩
  .simp [Instr.mapUpdate,run_underlying hu,MapKept.run_getObj_map hb,MapKept.run_checkKey hk (mK s),MapKept.run_findKey hk h1,hj,h3,MapKept.run_keyThatStays (mK s),MapKept.run_setObj_map _ hb,Result.andThen]
  .rw [MapKept.modify_keys _ _ VH]
   exact hn
  .have l7:∀i,(es.modify j λe=>{e with key:=.string s,val:=v}).toList[i]?=if i=j then some ⟨.string s,v,e.born⟩else es.toList[i]?:=λi=>by
    rw [Array.getElem?_toList,Array.getElem?_modify]
    by_cases ei:i=j
    .subst ei;simp [hj]
    .rw [af (λq=>ei q.symm),af ei,Array.getElem?_toList]
   have V6:∀i x,es.toList[i]?=some x->x.key=.string s->i=j:=λi x hx iP=>by
    exact afQ
   intro t u;show(if t=s then some v else f t)=some u↔_
   by_cases Lz:t=s
   .subst Lz
    rw [ak rfl]
    constructor
    .intro q
     cases q
     exact⟨⟨.string t,v,e.born⟩,List.mem_of_getElem? (i:=j) (by rw [l7,ak rfl]),rfl,rfl⟩
    .rintro⟨x,hx,iP,qY⟩
     obtain⟨i,hi⟩:=List.getElem?_of_mem hx;rw [l7]at hi
     split at hi
     .cases hi
      rw [<-qY]
     .rename_i iF
      exact absurd (V6 i x hi iP) iF
   .rw [af Lz,hm]
    constructor
    .rintro⟨x,hx,iP,qY⟩
     obtain⟨i,hi⟩:=List.getElem?_of_mem hx
     have iF:¬i=j:=λq=>by
      subst q;rw [h2]at hi
      cases hi
      rw [h3]at iP;injection iP with iP;exact Lz iP.symm
     exact⟨x,List.mem_of_getElem? (i:=i) (by rw [l7,af iF];exact hi),iP,qY⟩
    .rintro⟨x,hx,iP,qY⟩
     obtain⟨i,hi⟩:=List.getElem?_of_mem hx;rw [l7]at hi
     split at hi
     .cases hi
      injection iP with iP;exact absurd iP.symm Lz
     .exact⟨x,List.mem_of_getElem? hi,iP,qY⟩
theorem dy.del (h:dy w g f) (hu:P.underlying mt=some (.map kt et)) (hk:P.underlying kt=some .string) (ty:TypeId) (s:ByteArray):
 ∃w',(Builtin.delete_ #[mt,kt] ty #[.map (some g),.string s]).run P w=.ok (.tuple #[]) w'/\dy w' g (λt=>if t=s then none else f t)/\Kept (·=g) w w':=by
 obtain⟨es,clock,hb,hks,hn,hm,⟨h1,hf,zH⟩|⟨j,e,h1,h2,h3,h4⟩⟩:=h.find s
 .refine⟨{w with heap:=w.heap.setIfInBounds g (.map es clock)},?_,⟨es,clock,(MapKept.heap_set hb).1,hks,hn,λt u=>?_⟩,pj⟩
  .simp [Builtin.delete_,run_underlying hu,MapKept.run_getObj_map hb,MapKept.run_checkKey hk (mK s),MapKept.run_findKey hk h1,MapKept.run_setObj_map _ hb,Result.andThen]
  .show(if t=s then none else f t)=some u↔_
   by_cases Lz:t=s
   .subst Lz
    rw [ak rfl,<-hf,hm]
   .rw [af Lz,hm]
 .have d_:j<es.size:=by have:=(List.getElem?_eq_some_iff.1 h2).1;simpa using this
  have TP:(es.eraseIdxIfInBounds j).toList=es.toList.eraseIdx j:=by
   unfold Array.eraseIdxIfInBounds;rw [dif_pos d_,Array.toList_eraseIdx]
  have Rx:(es.toList.eraseIdx j).Sublist es.toList:=List.eraseIdx_sublist _ _;refine⟨{w with heap:=w.heap.setIfInBounds g (.map (es.eraseIdxIfInBounds j) clock)},?_,⟨_,clock,(MapKept.heap_set hb).1,?_,?_,λt u=>?_⟩,pj⟩
  .simp [Builtin.delete_,run_underlying hu,MapKept.run_getObj_map hb,MapKept.run_checkKey hk (mK s),MapKept.run_findKey hk h1,MapKept.run_setObj_map _ hb,Result.andThen]
  .rw [TP];exact λx hx=>hks x (Rx.subset hx)
  .rw [TP];exact(Rx.map _).nodup hn
  .rw [TP]
   have V6:∀i x,es.toList[i]?=some x->x.key=.string s->i=j:=λi x hx iP=>by
    exact afQ
   show(if t=s then none else f t)=some u↔_
   by_cases Lz:t=s
   .subst Lz
    rw [ak rfl]
    constructor
    .intro q;cases q
    .rintro⟨x,hx,iP,_⟩
     obtain⟨i,hij,hi⟩:=List.mem_eraseIdx_iff_getElem?.1 hx;exact absurd (V6 i x hi iP) hij
   .rw [af Lz,hm]
    constructor
    .rintro⟨x,hx,iP,qY⟩
     obtain⟨i,hi⟩:=List.getElem?_of_mem hx;refine⟨x,List.mem_eraseIdx_iff_getElem?.2 ⟨i,λq=>?_,hi⟩,iP,qY⟩;subst q;rw [h2]at hi
     cases hi
     rw [h3]at iP;injection iP with iP;exact Lz iP.symm
    .rintro⟨x,hx,iP,qY⟩
     exact⟨x,Rx.subset hx,iP,qY⟩
end
structure Row (w:World) (b off:Nat) (vs:List Value):Prop where
 has:has w b off vs.length=true
 get:gets w b off vs.length=vs.toArray
 lt:b<w.heap.size
section
variable {w w':World} {b off:Nat} {vs:List Value}
theorem Row.inv (h:Row w b off vs):∃c t fr,w.heap[b]?=some (.cells c t fr)/\off+vs.length<=c.size/\(c.toList.drop off).take vs.length=vs:=by
 have h1:=h.has;have h2:=h.get;unfold Proofs.YtnhelcmddjbafaaGreatDoor.has at h1;unfold gets at h2
 split at h1
 .rename_i c t fr hq
  rw [hq]at h2;exact⟨c,t,fr,hq,of_decide_eq_true h1,by simpa using h2⟩
 .cases h1
theorem Row.kept {S:Nat->Prop} (h:Row w b off vs) (hk:Kept S w w') (hs:¬S b):Row w' b off vs:=by
 have hb:=hk.block b h.lt hs;refine⟨?_,?_,gK h.lt hk.size⟩
 .have:=h.has;unfold Proofs.YtnhelcmddjbafaaGreatDoor.has at this⊢;rw [hb];exact this
 .have:=h.get;unfold gets at this⊢;rw [hb];exact this
theorem Row.ext (h:Row w b off vs) (hk:al w w'):Row w' b off vs:=h.kept hk (λf=>f)
theorem Row.sub (h:Row w b off vs) (j m:Nat) (hj:j+m<=vs.length):Proofs.YtnhelcmddjbafaaGreatDoor.has w b (off+j) m=true/\gets w b (off+j) m=((vs.drop j).take m).toArray:=by
 obtain⟨c,t,fr,hq,hle,mX⟩:=h.inv;unfold Proofs.YtnhelcmddjbafaaGreatDoor.has gets;rw [hq];refine⟨by simp;omega,?_⟩;show((c.toList.drop (off+j)).take m).toArray=_;rw [<-mX,List.drop_take,List.take_take,List.drop_drop,Nat.min_eq_left ad]
theorem Row.cell (h:Row w b off vs) (i:Nat) (hi:i<vs.length):w.cell? ⟨b,off+i,none⟩=vs[i]?:=by
 obtain⟨c,t,fr,hq,hle,mX⟩:=h.inv;rw [cell_of_row w b (off+i) c t fr hq,<-mX,List.getElem?_take,ak hi,List.getElem?_drop];simp
theorem Row.cF {t:TypeId} {cs:Array Value} (h:ai w b t cs):Row w b 0 cs.toList:=by
 refine⟨by rw [bH h];simp,?_,ai.lt h⟩;rw [bG h];simp [kI]
end
theorem di {P:Program} {fn:Func} {R:Ending->World->Prop} {a:Act} {w:World} {p j:Tmp} {ty t:TypeId} {g:Nat} {cs:Array Value}
 (D6:fn.results=#[.cell p ty,.tmp j]) (hd:a.defers=[]) (hp:a.tmps.getD p undef=.pointer (some ⟨g,0,none⟩)) (ha:ga P ty=true) (hs:dr P ty=some cs.size) (hb:ai w g t cs)
 (hR:R (.returned (.tuple #[.agg cs,a.tmps.getD j undef])) w):bodyPost P fn R .ret a w:=by
 exact Qd
theorem aR {a b:Bool} (h:a=b):Ending.returned (.bool a)=.returned (.bool b):=by rw [h]
theorem aI {w w':World} {base:Nat} {E:TypeId} {v:Value} {n:Nat} {xs:List Value} (h:w.ownsRow base E sz v n xs) (hk:al w w'):w'.ownsRow base E sz v n xs:=
 h.kept (row:=none) ⟨hk.os,hk.tape,hk.output,hk.size,λk hl _=>hk.block k hl (λf=>f)⟩ (by cases hv:v.ownBlock<;>simp)
theorem eI {w:World} {b b':Nat} {E:TypeId} {v:Value} {n:Nat} {xs:List Value} (h:w.ownsRow b' E sz v n xs) (hb:b<=b'):w.ownsRow b E sz v n xs:=by
 refine⟨h.1,?_⟩
 rcases h.2 with h1|⟨g,c,cV,hv,hg,r⟩
 .exact .inl h1
 .exact .inr ⟨g,c,cV,hv,ax hb hg,r⟩
theorem cU {S:Nat->Prop} {w w':World} {base:Nat} {E:TypeId} {v:Value} {n:Nat} {xs:List Value} (h:w.ownsRow base E sz v n xs) (hk:Kept S w w') (hs:∀g,v.ownBlock=some g->¬S g):w'.ownsRow base E sz v n xs:=by
 refine⟨h.1,?_⟩
 rcases h.2 with h1|⟨g,c,cV,hv,hg,hc,r⟩
 .exact .inl h1
 .refine .inr ⟨g,c,cV,hv,hg,?_,r⟩
  rw [hk.block g (Array.getElem?_eq_some_iff.1 hc).1 (hs g (by rw [hv];rfl))];exact hc
theorem GQ {w:World} {base:Nat} {E:TypeId} {v:Value} {n:Nat} {xs:List Value} (h:w.ownsRow base E sz v n xs) {i:Nat} (hi:v.ownBlock=some i):∃cV,w.heap[i]?=some (.cells cV E (0,0)):=by
 rcases h.2 with⟨hv,_⟩|⟨g,c,cV,hv,_,hc,_⟩
 .rw [hv]at hi;simp [Value.ownBlock]at hi
 .rw [hv]at hi
  simp [Value.ownBlock]at hi;subst hi;exact⟨cV,hc⟩
theorem dl {w:World} {base:Nat} {E E':TypeId} {v:Value} {n:Nat} {xs:List Value} (h:w.ownsRow base E sz v n xs) (hE:¬E=E'):∀i,v.ownBlock=some i->∀cV fr,¬w.heap[i]?=some (.cells cV E' fr):=λi hi cV fr e=>by
 obtain⟨amd,e'⟩:=GQ h hi;rw [e]at e';injection e' with e';injection e' with _ e' _;exact hE e'.symm
theorem Ai (w:World) (E:TypeId) (sz:Nat):(w.alloc (.cells #[] E)).ownsRow w.heap.size E sz (.slice (some ⟨w.heap.size,0,none⟩) 0 0) 0 []:=
 ⟨by simp,.inr ⟨w.heap.size,0,#[],rfl,cr _,heap_alloc_new w _,cr _,by simp,by simp,by simp⟩⟩
theorem Kept.pr {w w':World} {row:Option Nat} (h:w.grownBy w' row):Kept (λi=>row=some i) w w':=
 ⟨h.os,h.tape,h.output,h.size,λk hk hn=>h.block k hk (λe=>hn e.symm)⟩
theorem En (b off j:Nat):(⟨b,off,none⟩:Addr).add j=⟨b,off+j,none⟩:=by unfold Addr.add;split<;>simp_all
theorem Row.cells {w:World} {b off:Nat} {vs:List Value} (h:Row w b off vs):∀j u,vs[j]?=some u->w.cell? ((⟨b,off,none⟩:Addr).add j)=some u:=λj u hu=>by
 rw [En,h.cell j (List.getElem?_eq_some_iff.1 hu).1,hu]
theorem oX {P:Program} {T E:TypeId} {i:TypeInfo} {z:Value} {bytes:Nat} (ht:P.underlying T=some (.slice E)) (hi:P.info? E=some i) (hz:i.zero=some z) (h1:i.size=sz) (h2:i.bytes=bytes) (h3:z.cells.size=sz) (h4:0<sz)
 (w:World) (base:Nat) (v:Value) (n:Nat) (xs:List Value) (gp:w.ownsRow base E sz v n xs) (b off m c:Nat) (ys:List Value) (hl:ys.length=m*sz) (hr:Row w b off ys) (hf:eB ys=true) (hn:n+m<=maxLen) (hb:(n+m)*bytes<=140737488355328) (gL:base<=w.heap.size):
 ∃v' w',(Builtin.append_ #[T,T] T #[v,.slice (some ⟨b,off,none⟩) m c]).run P w=.ok v' w'/\w'.ownsRow base E sz v' (n+m) (xs++ys)/\Kept (λi=>v.ownBlock=some i) w w':=by
 obtain⟨v',w',dz,ho,hg,_⟩:=run_append_own (P:=P) w base T T E i z sz bytes ht hi hz h1 h2 h3 h4 v n xs gp ⟨b,off,none⟩ m c ys hl hr.cells (mU hf) hn hb gL;exact⟨v',w',dz,ho,Kept.pr hg⟩
section
variable {P:Program} {w:World} {ops:Array Oper} {rest:List Oper} {o:Oper} {a:Act} {Q:Exit->Act->World->Prop} (Dl:o.guard=none) (x y:Operand) (T:TypeId)
include P w ops rest o a Q Dl x y T
theorem cj (ho:o.op=.call {callee:=.builtin .append,args:=#[x,y],argTypes:=#[T,T]}) {ty:TypeId} (hty:o.type=ty) {v s:Value} {w':World} (hx:a.eval x=v) (hy:a.eval y=s) (dz:(Builtin.append_ #[T,T] ty #[v,s]).run P w=.ok v' w') (h:wpList P ops Q rest (a.put o.dst v') w'):wpList P ops Q (o::rest) a w:=
 wpList_plain Dl λ_ hK=>by
  subst hty;unfold Oper.wp execOp;simp only [ho,resolve,invoke,builtin,Sem.run_bind,Sem.run_pure,Result.andThen_ok,List.map_toArray,tq,List.map_nil,hx,hy,dz];exact hK _ _ h
theorem ia (ho:o.op=.makeSlice T x y) {v s:Value} {w':World} (hx:a.eval x=v) (hy:a.eval y=s) (dz:(Instr.makeSlice T v s).run P w=.ok v' w') (h:wpList P ops Q rest (a.put o.dst v') w'):wpList P ops Q (o::rest) a w:=
 wpList_plain Dl λ_ hK=>by
  unfold Oper.wp execOp;simp only [ho,Sem.run_bind,Sem.run_pure,Result.andThen_ok,hx,hy,dz];exact hK _ _ h
end
theorem BJ {c:Bool} {p q:Prop} (hc:c=true) (h:p):if c=true then p else q:=by rw [ak hc];exact h
theorem kl {w:World} {g o n:Nat} (hS:al w w1) (hg:g<w.heap.size) (h:Proofs.YtnhelcmddjbafaaGreatDoor.has w g o n=true):Proofs.YtnhelcmddjbafaaGreatDoor.has w1 g o n=true:=by
 unfold Proofs.YtnhelcmddjbafaaGreatDoor.has at h⊢;rw [hS.block g hg (λf=>f)];exact h
theorem iT {w:World} {g o n:Nat} {c:Array Value} (hS:al w w1) (hg:g<w.heap.size) (h:gets w g o n=c):gets w1 g o n=c:=by
 unfold gets at h⊢;rw [hS.block g hg (λf=>f)];exact h
theorem fh {w:World} {base:Nat} {E:TypeId} {v:Value} {n:Nat} {xs:List Value} (h:w.ownsRow base E sz v n xs) (h0:0<n) (hz:0<sz):∃g c,v=.slice (some ⟨g,0,none⟩) n c/\Row w g 0 xs/\base<=g/\(∃cV,w.heap[g]?=some (.cells cV E (0,0))):=by
 have hl:=h.1
 rcases h.2 with⟨hv,e0⟩|⟨g,c,cV,hv,hb,hc,rB,vu,kL,mX⟩
 .subst e0
  have:=Nat.mul_pos h0 hz;simp at hl
  omega
 .refine⟨g,c,hv,⟨?_,?_,(Array.getElem?_eq_some_iff.1 hc).1⟩,hb,cV,hc⟩
  .unfold has;rw [hc,hl];simp only [dT,jP];rw [kL];exact Nat.mul_le_mul_right _ rB
  .unfold gets;rw [hc,hl];simp only [re];rw [mX]
def br (n:Int):Prop:=-9223372036854775808<=n/\n<=9223372036854775807
theorem jA {P:Program} {fn:Func} {R:Ending->World->Prop} {a:Act} {w:World} (D6:fn.results=#[]) (hd:a.defers=[]) (hR:R (.returned (.tuple #[])) w):bodyPost P fn R .ret a w:=
 bodyPost_ret (results_none D6 _ _ _) hd hR
open Go.Deep Go.ChangeShapes Go.WideShapes
theorem sF (b off j:Nat):(⟨b,off,none⟩:Addr).add j=⟨b,off+j,none⟩:=by unfold Addr.add;split<;>simp_all
theorem D8 {w:World} {a:Addr} {v:Value} (h:w.cell? a=some v):a.spot=none:=by
 unfold World.cell? at h
 split at h
 .split at h
  .cases h
  .rename_i hn;cases hs:a.spot with
   |none=>rfl
   |some x=>simp [hs]at hn
 .cases h
theorem G9 {w:World} {b o:Nat} (vs:List Value) (iF:0<vs.length) (h:∀j,j<vs.length->w.cell? ⟨b,o+j,none⟩=vs[j]?):Row w b o vs:=by
 have h0:=h 0 iF
 cases hq:w.heap[b]? with
 |none=>simp [World.cell?,hq,List.getElem?_eq_getElem iF]at h0
 |some ob=>
  cases ob with
  |cells c t fr=>
   have hc:∀j,j<vs.length->c[o+j]?=vs[j]?:=λj hj=>by have:=h j hj;simpa [World.cell?,hq]using this
   have Ps:=hc (vs.length - 1) ad
   have aP:o+(vs.length - 1)<c.size:=by
    rw [List.getElem?_eq_getElem ad]at Ps;exact(Array.getElem?_eq_some_iff.1 Ps).1
   refine⟨by unfold Proofs.YtnhelcmddjbafaaGreatDoor.has;rw [hq];simp;omega,?_,(Array.getElem?_eq_some_iff.1 hq).1⟩;unfold gets;rw [hq];show((c.toList.drop o).take vs.length).toArray=vs.toArray
   congr 1
   apply List.ext_getElem?;intro j;rw [List.getElem?_take]
   split
   .rename_i hj
    rw [List.getElem?_drop,<-hc j hj];simp
   .rename_i hj
    rw [List.getElem?_eq_none ad]
  |_=>simp [World.cell?,hq,List.getElem?_eq_getElem iF]at h0
theorem xX (hsz:0<sz):∀(DS:List (List Value)) (_:∀cs∈DS,cs.length=sz) (k:Nat),DS.flatten[k]?=(DS.getD (k / sz) [])[k%sz]?
 |[],_,k=>by simp
 |c::r,h,k=>by
  have hc:=h c aB;have ih:=xX hsz r (λcs kL=>h cs (by simp [kL]));rw [List.flatten_cons]
  by_cases hk:k<sz
  .rw [List.getElem?_append_left ad,Nat.div_eq_of_lt hk,Nat.mod_eq_of_lt hk]
   simp
  .rw [List.getElem?_append_right ad,hc,ih (k - sz)]
   have e1:k / sz=(k - sz) / sz+1:=by rw [Nat.div_eq k sz,ak ⟨hsz,by omega⟩]
   have e2:k%sz=(k - sz)%sz:=by rw [Nat.mod_eq k sz,ak ⟨hsz,by omega⟩]
   rw [e1,e2];simp
theorem xY:∀(DS:List (List Value)) (_:∀cs∈DS,cs.length=sz),DS.flatten.length=DS.length*sz
 |[],_=>by simp
 |c::r,h=>by
  have hc:=h c aB;have ih:=xY r (λcs kL=>h cs (by simp [kL]));rw [List.flatten_cons,dn,ih,hc,iQ,Nat.succ_mul]
  omega
def bZ {α:Type} (f:α->Array Value) (l:List α):List Value:=l.flatMap λd=>(f d).toList
section
variable {α:Type} {f:α->Array Value} {k:Nat}
theorem ja (hf:∀d,(f d).size=k) (l:List α):(bZ f l).length=l.length*k:=by
 induction l with
 |nil=>simp [bZ]
 |cons d l ih=>
  show((f d).toList++bZ f l).length=_;rw [dn,ih,Array.length_toList,hf,iQ,Nat.succ_mul]
  omega
theorem Kh (hf:∀d,(f d).size=k):∀(l:List α) (j:Nat) (hj:j<l.length),((bZ f l).drop (j*k)).take k=(f l[j]).toList
 |d::l,0,_=>by
  show(((f d).toList++bZ f l).drop (0*k)).take k=_;rw [Nat.zero_mul,re,List.take_append,kI (by rw [Array.length_toList,hf];exact cr _),Array.length_toList,hf];simp
 |d::l,j+1,hj=>by
  have ih:=Kh hf l j (by simpa using hj);show(((f d).toList++bZ f l).drop ((j+1)*k)).take k=_;have hl:(f d).toList.length=k:=by rw [Array.length_toList,hf]
  rw [Nat.succ_mul,Nat.add_comm,<-hl,List.drop_append,List.drop_of_length_le (l:=(f d).toList) ad];simp only [Nat.add_sub_cancel_left,qx];rw [hl];exact ih
theorem xE (hf:∀d,(f d).size=k) {w:World} {b off:Nat} {l:List α} (h:Row w b off (bZ f l)) (j:Nat) (hj:j<l.length):Proofs.YtnhelcmddjbafaaGreatDoor.has w b (off+j*k) k=true/\gets w b (off+j*k) k=f l[j]:=by
 have:=h.sub (j*k) k (by rw [ja hf];calc
  j*k+k=(j+1)*k:=by rw [Nat.succ_mul]
  _<=l.length*k:=Nat.mul_le_mul_right _ hj)
 rw [Kh hf l j hj]at this;exact this
theorem EI:∀(a b:List Value),eB (a++b)=(eB a&&eB b)
 |[],b=>by simp [eB]
 |x::a,b=>by simp [eB,EI a b,Bool.and_assoc]
theorem NP (hf:∀d,eB (f d).toList=true) (l:List α):eB (bZ f l)=true:=by
 induction l with
 |nil=>rfl
 |cons d l ih=>show eB ((f d).toList++bZ f l)=true;rw [EI,hf,ih];rfl
theorem Fh (l q:List α):bZ f l++bZ f q=bZ f (l++q):=by simp [bZ]
end
section
variable {H:Type} {enc:TypeId×Value->H} {P:Program} {w:World} {base:Nat} {spare:Nat->Bool} {held:Bool}
theorem Fb {T E:TypeId} {fuel:Nat} {v:Value} {x:DataW H×List MemPlace} (hu:P.underlying T=some (.slice E)) (hsz:P.cellsOf E=sz) (nx:0<sz) (h:DataW.trod enc P w base spare held fuel T [v]=some x):
 ∃(A:Option Addr) (b off len cap:Nat) (DS:List (List Value)),v=.slice A len cap/\(0<len->A=some ⟨b,off,none⟩)/\DS.length=len/\(0<len->Row w b off DS.flatten)/\
  (∀cs∈DS,cs.length=sz/\∃n y,DataW.trod enc P w base spare held n E cs=some y)/\len<=cap/\cap<=maxLen:=by
 rcases open_slice hu h with⟨kL,_⟩|⟨a,len,cap,m,n,D',Pl,kL,_,hl,hm,Dq,_,hi⟩
 .simp at kL
  exact⟨none,0,0,0,0,[],kL,λh=>by omega,rfl,λh=>by omega,λ_ h=>by simp at h,by omega,by simp [maxLen]⟩
 .simp at kL
  have hlm:len<=m:=by rw [Dq];split<;>omega
  rw [hsz]at hi
  have YN:∀i,∃cs,i<len->cs.length=sz/\(∃n y,DataW.trod enc P w base spare held n E cs=some y)/\∀j,j<sz->w.cell? ((a.add (i*sz)).add j)=cs[j]?:=λi=>by
   by_cases yh:i<len
   .obtain⟨cs,hc,ht⟩:=hi i ad
    obtain⟨_,nw,l7⟩:=World.cells?_some hc;exact⟨cs,λ_=>⟨nw,⟨_,_,ht⟩,l7⟩⟩
   .exact⟨[],λh=>absurd h yh⟩
  obtain⟨C,hC⟩:=Classical.axiomOfChoice YN
  have hsp:0<len->a=⟨a.block,a.off,none⟩:=λh0=>by
   obtain⟨nw,_,l7⟩:=hC 0 h0;have h0':=l7 0 nx;rw [List.getElem?_eq_getElem ad]at h0';have e:(a.add (0*sz)).add 0=a:=by simp [Addr.add]
   rw [e]at h0';have:=D8 h0'
   cases a;simp_all
  have hlen:∀cs∈(List.range len).map C,cs.length=sz:=λcs kL=>by
   simp at kL;obtain⟨i,yh,rfl⟩:=kL;exact(hC i yh).1
  refine⟨some a,a.block,a.off,len,cap,(List.range len).map C,kL,λh=>by rw [<-hsp h],by simp,λh0=>?_,λcs kL=>⟨hlen cs kL,?_⟩,hl,hm⟩
  .have D_:=xY _ hlen
   rw [gu,List.length_range]at D_;refine G9 _ (by rw [D_];exact Nat.mul_pos h0 nx) (λj hj=>?_);rw [D_]at hj;rw [xX nx _ hlen];have hq:j / sz<len:=Nat.div_lt_of_lt_mul (by rw [Nat.mul_comm];exact hj);have hr:=(hC (j / sz) hq).2.2 (j%sz) (Nat.mod_lt _ nx);rw [hsp h0,sF,sF,gw]at hr;rw [show j / sz*sz+j%sz=j by rw [Nat.mul_comm];exact Nat.div_add_mod j sz]at hr;rw [hr];simp [hq]
  .simp at kL
   obtain⟨i,yh,rfl⟩:=kL;exact(hC i yh).2.1
end
end
namespace Mc
abbrev bg (k:Int):St:=⟨2611923443488327891,1376283091369227076,11820040416388919760,k⟩
def tX (a b:Dg):Dg:=out (taken (taken (bg 3) (B' a)) (B' b))
theorem Hw (a b:Dg) (ha:a.ok) (hb:b.ok) (w:World):Calls prog 232 #[.agg #[.int .u8 a.x0,.int .u8 a.x1,.int .u8 a.x2,.int .u8 a.x3,.int .u8 a.x4,.int .u8 a.x5,.int .u8 a.x6,.int .u8 a.x7],.agg #[.int .u8 b.x0,.int .u8 b.x1,.int .u8 b.x2,.int .u8 b.x3,.int .u8 b.x4,.int .u8 b.x5,.int .u8 b.x6,.int .u8 b.x7]] w λe w'=>e=.returned (.agg (tX a b).cells)/\al w w':=by
 have HA:=J ha;have HB:=J hb;clear ha hb;have aF:al w _:=((dM w (.cells #[.int .u8 a.x0,.int .u8 a.x1,.int .u8 a.x2,.int .u8 a.x3,.int .u8 a.x4,.int .u8 a.x5,.int .u8 a.x6,.int .u8 a.x7] 25)).alloc (.cells #[.int .u8 b.x0,.int .u8 b.x1,.int .u8 b.x2,.int .u8 b.x3,.int .u8 b.x4,.int .u8 b.x5,.int .u8 b.x6,.int .u8 b.x7] 25)).alloc (.cells Dg.zero.cells 25);have eY:ai _ (w.heap.size+1) 25 b.cells:=ai.alloc (ai.ea (w.alloc (.cells #[.int .u8 a.x0,.int .u8 a.x1,.int .u8 a.x2,.int .u8 a.x3,.int .u8 a.x4,.int .u8 a.x5,.int .u8 a.x6,.int .u8 a.x7] 25)) _ _ _ aB) (.cells Dg.zero.cells 25);have hA0:ai _ w.heap.size 25 a.cells:=ai.alloc (ai.alloc (bN w _ _) (.cells #[.int .u8 b.x0,.int .u8 b.x1,.int .u8 b.x2,.int .u8 b.x3,.int .u8 b.x4,.int .u8 b.x5,.int .u8 b.x6,.int .u8 b.x7] 25)) (.cells Dg.zero.cells 25);have fz:ai _ (w.heap.size+1+1) 25 Dg.zero.cells:=ai.ea ((w.alloc (.cells #[.int .u8 a.x0,.int .u8 a.x1,.int .u8 a.x2,.int .u8 a.x3,.int .u8 a.x4,.int .u8 a.x5,.int .u8 a.x6,.int .u8 a.x7] 25)).alloc (.cells #[.int .u8 b.x0,.int .u8 b.x1,.int .u8 b.x2,.int .u8 b.x3,.int .u8 b.x4,.int .u8 b.x5,.int .u8 b.x6,.int .u8 b.x7] 25)) _ _ _ aB;go_enter func232,ntmps232;go_wp21;refine aoS (rZ 3 _) λw1 aw=>?_;have oS:=bX hA0 aw;have wK:=bX eY aw;have g_:=bX fz aw;have LD:=ai.lt oS;have Jw:=bH oS;have Rn:=bG oS;go_wp21;refine aoS (p8 a HA.o _) λw2 bd=>?_;have td:=bX (bN w1 317 (bg 3).cells) bd;go_wp21;refine(jC _ _ _ _ td).mono ?_;rintro e w3 ⟨rfl,MN,dv⟩;have aal:al w1 w3:=((dM w1 _).trans bd).trans' dv (λi hi e=>by omega);have Ga:=bX wK aal;have hh3:=bH Ga;have hg3:=bG Ga;go_wp21;refine aoS (p8 b HB.o _) λw4 eS=>?_;go_wp21;refine(jC _ _ _ _ (bX MN eS)).mono ?_;rintro e w5 ⟨rfl,hs5,iG⟩;have aio:al w1 w5:=(aal.trans eS).trans' iG (λi hi e=>by omega);go_wp21;refine aoS (sj _ _ _ hs5) λw6 nU=>?_;have Ip:=bX g_ (aio.trans nU);have hh6:=bH Ip;have hm6:=ai.aC Ip;go_wp21;refine bu results232 rfl rfl dU kH (ai.cw Ip _ _) ⟨rfl,?_⟩;exact Kept.putAt (((aF.trans aw).trans aio).trans nU) _ _ _ (λh=>by omega)
def cY (l:List Dg):List Value:=l.flatMap λd=>d.cells.toList
theorem eh (l:List Dg):(cY l).length=l.length*8:=by
 induction l with
 |nil=>rfl
 |cons d l ih=>simp only [cY,List.flatMap_cons,dn]at ih⊢;rw [ih];simp;omega
theorem O1:∀(l:List Dg) (k:Nat) (hk:k<l.length),((cY l).drop (k*8)).take 8=(l[k]).cells.toList
 |d::l,0,_=>by simp [cY]
 |d::l,k+1,hk=>by
  have ih:=O1 l k (by simpa using hk)
  have e:(cY (d::l)).drop ((k+1)*8)=(cY l).drop (k*8):=by
   rw [show(k+1)*8=8+k*8 by omega,<-List.drop_drop]
   rfl
  rw [e,ih];simp
end Mc
section
open Mc
theorem Row.ZT {w:World} {b off:Nat} {l:List Dg} (h:Row w b off (cY l)) (k:Nat) (hk:k<l.length):Proofs.YtnhelcmddjbafaaGreatDoor.has w b (off+k*8) 8=true/\gets w b (off+k*8) 8=(l[k]).cells:=by
 have:=h.sub (k*8) 8 (by rw [eh];omega);rw [O1 l k hk]at this
 simpa using this
end
namespace Mc
def JX (l:List Dg):St:=l.foldl (λs d=>taken s (B' d)) (bg 5)
def Vf (l:List Dg):Dg:=out (taken (JX l) l.length)
theorem Ng (l:List Dg) (k:Nat) (hk:k<l.length):JX (l.take (k+1))=taken (JX (l.take k)) (B' l[k]):=by
 unfold JX;rw [List.take_succ_eq_append_getElem hk,List.foldl_append]
 rfl
theorem Wr (A:Option Addr) (b off cap:Nat) (l:List Dg) (hl:l.length<=9223372036854775807) (hok:∀d∈l,d.ok) (w:World) (hA:0<l.length->A=some ⟨b,off,none⟩) (hr:0<l.length->Row w b off (cY l)):
 Calls prog 156 #[.slice A l.length cap] w λe w'=>e=.returned (.agg (Vf l).cells)/\al w w':=by
 have⟨HO,HA,HR⟩:=J3' hok hA hr;clear hok hA hr;refine Oz ?_;intro aF fz;obtain⟨n,hn⟩:=nm' l.length;rw [<-hn]at hl⊢;have HNn:=J hn;clear hn;go_enter func156,ntmps156;go_wp21;refine aoS (rZ 5 _) λw1 aw=>?_;go_wp21;have xp:=bN w1 317 (bg 5).cells
 go_loopw [9] (λi wr=>∃k:Nat,k<=n/\i=.int .i64 k/\ai wr w1.heap.size 317 (JX (l.take k)).cells/\al w1 wr) (λi _=>n - (intOf i).toNat)
 case atStart=>exact⟨0,by omega,rfl,xp,dM _ _⟩
 case round=>
  obtain⟨k,hk,rfl,hs,hx⟩:=hrel;clear xp
  by_cases aP:k<n
  .have nS:k<l.length:=by have:=HNn.o;omega
   obtain rfl:=HA.o ad;have aE:=((HR.o ad).ext ((aF.trans aw).trans hx)).ZT k nS;obtain⟨VY,LF⟩:=aE;have qB:=gK (HR.o ad).lt ((aF.trans aw).trans hx).size;go_wp21;refine aoS (p8 l[k] (HO.o _ (ed nS)) _) λw2 bd=>?_;go_wp21;refine(jC _ _ _ _ (bX (ai.alloc hs _) bd)).mono ?_;rintro e w3 ⟨rfl,MN,dv⟩;go_wp21;go_roundw
   case rel=>exact⟨k+1,by omega,by go_num,by rw [Ng l k nS];exact MN,((hx.alloc _).trans bd).trans' dv (λi hi e=>by omega)⟩
   case measure=>(simp only [intOf];omega)
  .have TX:k=l.length:=by have:=HNn.o;omega
   have HK:=J TX;clear TX;go_wp21;refine(jC _ _ _ _ hs).mono ?_;rintro e w2 ⟨rfl,td,bd⟩;have V8:al w1 w2:=hx.trans' bd (λi hi e=>by omega);go_wp21;refine aoS (sj _ _ _ td) λw3 dv=>?_;have o4:=bX (bX fz aw) (V8.trans dv);have hh3:=bH o4;have T0:=ai.aC o4;go_wp21;refine bu results156 rfl rfl dU kH (ai.cw o4 _ _) ⟨?_,?_⟩
   .unfold Vf
    rw [HK.o,jr,HNn.o]
    rfl
   .exact Kept.putAt (((aF.trans aw).trans V8).trans dv) _ _ _ (λh=>by omega)
theorem L9 (w:World) (a:Option Addr) (len cap:Nat) (h:8<=len):(Instr.arrayAt 25 (.slice a len cap)).run prog w=.ok (.pointer a) w:=by
 simp [Instr.arrayAt,run_underlying underlying25]
 omega
attribute [go_sem] L9
def cu (l:List Int):List Value:=l.map (Value.int .u8)
theorem dR (l:List Int):(cu l).length=l.length:=by simp [cu]
def Jb (l:List Int):Dg:=⟨l.getD 0 0,l.getD 1 0,l.getD 2 0,l.getD 3 0,l.getD 4 0,l.getD 5 0,l.getD 6 0,l.getD 7 0⟩
theorem Mp:∀(l:List Int),8<=l.length->(cu l).take 8=(Jb l).cells.toList
 |a::b::c::d::e::f::g::h::l,_=>by simp [cu,Jb]
theorem US (l:List Int) (j:Nat) (hj:j<8):Bh (Jb l) j=l.getD j 0:=by
 rcases(by omega:j=0∨j=1∨j=2∨j=3∨j=4∨j=5∨j=6∨j=7)with rfl|rfl|rfl|rfl|rfl|rfl|rfl|rfl<;>rfl
def bI (l:List Int):Prop:=∀x∈l,0<=x/\x<=255
theorem O0 {l:List Int} (h:bI l):(Jb l).ok:=by
 intro j
 by_cases hj:j<8
 .rw [US l j hj]
  by_cases hl:j<l.length
  .simp only [List.getD,List.getElem?_eq_getElem hl,Option.getD_some];exact h _ (ed hl)
  .simp [List.getD,List.getElem?_eq_none (Nat.le_of_not_lt hl)]
 .match j,hj with
  |n+8,_=>simp [Bh]
  |0,h|1,h|2,h|3,h|4,h|5,h|6,h|7,h=>exact absurd ad h
theorem bI.drop {l:List Int} (h:bI l) (n:Nat):bI (l.drop n):=λx hx=>h x (List.mem_of_mem_drop hx)
def CP (s:St) (l:List Int):Nat->St|0=>s|k+1=>taken (CP s l k) (B' (Jb (l.drop (k*8))))
end Mc
section
open Mc
theorem Row.chunk {w:World} {b off:Nat} {l:List Int} (h:Row w b off (cu l)) (k:Nat) (hk:k*8+8<=l.length):Proofs.YtnhelcmddjbafaaGreatDoor.has w b (off+k*8) 8=true/\gets w b (off+k*8) 8=(Jb (l.drop (k*8))).cells:=by
 have:=h.sub (k*8) 8 (by rw [dR];omega);have e:((cu l).drop (k*8))=cu (l.drop (k*8)):=by simp [cu,List.map_drop]
 rw [e,Mp _ kr]at this
 simpa using this
end
namespace Mc
theorem Fv (g:Nat) (s:St) (A:Option Addr) (b off cap:Nat) (l:List Int) (n:Nat) (hn:n=l.length) (hl:n<=cap) (qM:cap<=9223372036854775807) (hok:bI l) (w:World) (hs:ai w g 317 s.cells) (hA:0<n->A=some ⟨b,off,none⟩) (hr:0<n->Row w b off (cu l)) (YM:0<n->¬b=g):
 Calls prog 307 #[.pointer (some ⟨g,0,none⟩),.slice A n cap] w λe w'=>e=.returned (.tuple #[])/\ai w' g 317 (CP s l (n / 8)).cells/\Kept (·=g) w w':=by
 have⟨HO,HA,HR,HG,HN⟩:=J5' hok hA hr YM hn;clear hok hA hr YM hn;go_enter func307,ntmps307;go_wp21
 go_loopw [8] (λi wr=>∃k:Nat,k<=n / 8/\i=.int .i64 k/\ai wr g 317 (CP s l k).cells/\Kept (·=g) w wr) (λi _=>n / 8 - (intOf i).toNat)
 case atStart=>exact⟨0,by omega,rfl,hs,kR _ _⟩
 case round=>
  obtain⟨k,hk,rfl,zI,hx⟩:=hrel;clear hs
  by_cases aP:k<n / 8
  .have Gh:k*8+8<=l.length:=by have:=HN.o;omega
   have yk:k*8+8<=n:=by omega
   obtain rfl:=HA.o ad;obtain⟨VY,LF⟩:=((HR.o ad).kept hx (HG.o ad)).chunk k Gh;have xi:¬cap=k*8:=by omega
   go_wp21;refine aoS (p8 _ (O0 (HO.o.drop _)) _) λw2 bd=>?_;go_wp21;refine(jC _ _ _ _ (bX zI bd)).mono ?_;rintro e w3 ⟨rfl,MN,dv⟩;go_wp21;go_roundw
   case rel=>exact⟨k+1,by omega,by go_num,MN,(hx.trans (Kept.ext bd)).trans dv⟩
   case measure=>(simp only [intOf];omega)
  .have TX:k=n / 8:=by omega
   have HK:=J TX;clear TX;go_wp21;go_end0;exact⟨rfl,HK.o▸zI,hx⟩
theorem agO (w:World) (ty:TypeId) (d a:Option Addr) (va FY Xd:Nat):(Builtin.copy_ #[89,89] ty #[.slice d va FY,.slice a 0 Xd]).run prog w=.ok (.int .i64 0) w:=by
 have h:=run_copy_none (P:=prog) w 89 89 ty 5 d a va FY 0 Xd underlying89 aV aB
 simpa [goInt]using h
theorem agP (w:World) (ty:TypeId) (g o va FY h p afa Xd:Nat) (cs:List Value) (hn:cs.length=Nat.min afa va) (hr:Row w h p cs) (hf:eB cs=true) (hh:has w g o cs.length=true) (hm:aC w g=true):
 (Builtin.copy_ #[89,89] ty #[.slice (some ⟨g,o,none⟩) va FY,.slice (some ⟨h,p,none⟩) afa Xd]).run prog w=.ok (.int .i64 cs.length) (putAt w g o cs.toArray):=by
 unfold has at hh;unfold aC at hm
 split at hh
 .rename_i c t fr hq
  rw [hq]at hm
  have TQ:fr=(0,0):=by
   revert hm;obtain⟨a,b⟩:=fr;cases a<;>cases b<;>simp
  subst TQ;rw [mr hq]
  have:=run_copy_row (P:=prog) w 89 89 ty 5 g o va FY ⟨h,p,none⟩ afa Xd c t cs underlying89 aV hq hn (λj v hv=>by
   rw [En h p j,hr.cell j (List.getElem?_eq_some_iff.1 hv).1,hv]) (of_decide_eq_true hh) (mU hf)
  rw [this];simp [goInt,splice]
 .cases hh
def GR (l:List Int):Dg:=Jb (l.drop (l.length / 8*8)++[1])
def AW (s:St) (l:List Int):St:=taken (taken (CP s l (l.length / 8)) (B' (GR l))) l.length
theorem R6 (r:List Int) (h:r.length<8):(splice Dg.zero.cells 0 (cu r).toArray).setIfInBounds r.length (.int .u8 1)=(Jb (r++[1])).cells:=by
 match r,h with
 |[],_=>rfl
 |[a],_=>rfl
 |[a,b],_=>rfl
 |[a,b,c],_=>rfl
 |[a,b,c,d],_=>rfl
 |[a,b,c,d,e],_=>rfl
 |[a,b,c,d,e,f],_=>rfl
 |[a,b,c,d,e,f,g],_=>rfl
theorem Et (l:List Int):eB (cu l)=true:=by
 induction l with
 |nil=>rfl
 |cons a l ih=>simp only [cu,tq,eB,Value.oneCell']at ih⊢;simpa using ih
abbrev adU:Dg:=⟨1,0,0,0,0,0,0,0⟩
theorem adV:adU.ok:=by
 intro j
 match j with
 |0|1|2|3|4|5|6|7=>simp [Bh]
 |n+8=>simp [Bh]
theorem UX (s0:Nat) (s:St) (b off cap:Nat) (l:List Int) (n:Nat) (hn:n=l.length) (hl:n<=cap) (qM:cap<=9223372036854775807) (hok:bI l) (w:World) (hs:ai w s0 317 s.cells) (hr:Row w b off (cu l)) (hm:0<n%8):
 Calls prog 308 #[.pointer (some ⟨s0,0,none⟩),.slice (some ⟨b,off,none⟩) n cap] w λe w'=>e=.returned (.tuple #[])/\ai w' s0 317 (taken (taken s (B' (GR l))) n).cells/\Kept (·=s0) w w':=by
 have HO:=J hok;have HN:=J hn;clear hok hn;go_enter func308,ntmps308;go_wp21;have LC:=bN w 25 #[.int .u8 0,.int .u8 0,.int .u8 0,.int .u8 0,.int .u8 0,.int .u8 0,.int .u8 0,.int .u8 0];have aF:al w _:=dM w (.cells #[.int .u8 0,.int .u8 0,.int .u8 0,.int .u8 0,.int .u8 0,.int .u8 0,.int .u8 0,.int .u8 0] 25);have hs0:=ai.lt hs;have tB:=hr.lt;generalize w.alloc (.cells #[.int .u8 0,.int .u8 0,.int .u8 0,.int .u8 0,.int .u8 0,.int .u8 0,.int .u8 0,.int .u8 0] 25)=W at LC aF⊢;generalize hg:w.heap.size=g at*;have xi:¬cap=n / 8*8:=by omega
 have hlo:n / 8*8<=n:=by omega
 have hh:=bH LC;have hme:=ai.aC LC;have hq1:(0:Int)<=(n:Int) / 8*8:=by omega
 have T4:((n:Int) / 8*8).toNat=n / 8*8:=by omega
 have VW:((n:Int) / 8*8)<=n:=by omega
 have om:IntKind.i64.wrap ((n:Int) / 8)=(n:Int) / 8:=IntWalk.i64_in _ ad;have tf:IntKind.i64.wrap ((n:Int) / 8*8)=(n:Int) / 8*8:=IntWalk.i64_in _ ad;obtain⟨r,hre⟩:=nm' ((l.drop (n / 8*8)).length);have hr8:r=n%8:=by have:=HN.o;simp at hre;omega
 have aE:Row W.drew b (off+n / 8*8) (cu (l.drop (n / 8*8))):=by
  have h1:=(hr.ext aF).sub (n / 8*8) (n - n / 8*8) (by rw [dR];have:=HN.o;omega)
  have e:((cu l).drop (n / 8*8)).take (n - n / 8*8)=cu (l.drop (n / 8*8)):=by
   rw [kI (by simp [cu];have:=HN.o;omega)];simp [cu,List.map_drop]
  have e2:(cu (l.drop (n / 8*8))).length=n - n / 8*8:=by rw [dR];simp;have:=HN.o;omega
  refine⟨by rw [e2];exact h1.1,by rw [e2,<-e];exact h1.2,gK hr.lt aF.size⟩
 have hcp:=agP W.drew 3 g 0 8 8 b (off+n / 8*8) (n - n / 8*8) (cap - n / 8*8) (cu (l.drop (n / 8*8))) (by rw [dR,<-hre];simp only [Nat.min_def];split<;>omega) aE (Et _) (by rw [Vq,bH LC];rw [dR];simp only [<-hre];simp;omega) hme;rw [dR,<-hre]at hcp;clear aE;have HE:=J hre;have H8:=J hr8;have V_:r<8:=by omega
 clear hre hr8;have wK:=ai.cw (ai.drew LC) 0 (cu (l.drop (n / 8*8))).toArray;have aw:Kept (·=g) W (putAt W.drew g 0 (cu (l.drop (n / 8*8))).toArray):=Kept.putAt ((kR _ W).drew) g 0 _ (λ_=>rfl);generalize hX:(cu (l.drop (n / 8*8))).toArray=X at hcp wK aw;have HX:=J hX;clear hX;generalize putAt W.drew g 0 X=W1 at hcp wK aw;refine fH (λ_=>True) [(0,2),(1,2),(2,2),(3,2),(4,2),(5,2),(6,2),(7,0),(8,2)] ?_;refine fI ?_
 repeat first|refine cx ?_|refine de trivial (by intro w1 hS;exact fV) ?_|refine dc trivial ?_
 refine au (λK hK=>?_);go_simp;refine hK.out _ _ (λ_=>trivial) ?_;clear hK K;refine fx ?_;clear hcp om tf hq1 T4 VW hh hme;have hc1:=bC wK;have hf1:=ai.frozen wK
 have hsz:(splice Dg.zero.cells 0 X).size=8:=by
  rw [<-HX.o,rR]
  .rfl
  .simp [cu];have:=HE.o;simp at this;omega
 obtain⟨v0,i'⟩:∃v0,(splice Dg.zero.cells 0 X)[r]?=some v0:=⟨_,Array.getElem?_eq_getElem ad⟩;have tZ:W1.cell? ⟨g,r,none⟩=some v0:=by rw [<-i'];exact hc1 r
 clear hc1;go_upto_region 3 with(fail);have pJ:=ai.eK wK r (.int .u8 1)
 have VT:(splice Dg.zero.cells 0 X).setIfInBounds r (.int .u8 1)=(GR l).cells:=by
  rw [<-HX.o,HE.o];have:=R6 (l.drop (n / 8*8)) (by rw [<-HE.o];exact V_);rw [HN.o]at this⊢;exact this
 rw [VT]at pJ;have bd:Kept (·=g) W (W1.setCell ⟨g,r,none⟩ (.int .u8 1)):=Kept.setCell aw _ _ (λ_=>rfl);clear VT tZ i' hsz wK aw hf1;generalize W1.setCell ⟨g,r,none⟩ (.int .u8 1)=W2 at pJ bd⊢;have TT:=bH pJ;have Pj:=bG pJ
 have VQ:(GR l).ok:=by
  apply O0;intro x hx
  rcases lr.1 hx with h|h
  .exact HO.o.drop _ x h
  .simp at h;subst h;omega
 have Zs:=J VQ;clear VQ;go_wp21;refine aoS (p8 (GR l) Zs.o _) λw3 dv=>?_;have MN:=bX (bK (bX hs aF) bd ad) dv;go_wp21;refine(jC _ _ _ _ MN).mono ?_;rintro e w4 ⟨rfl,hs4,eS⟩;go_wp21;refine(jC _ _ _ _ hs4).mono ?_;rintro e w5 ⟨rfl,hs5,iG⟩;go_wp21;go_end0;refine⟨rfl,hs5,?_⟩;have k1:al w W2:=aF.trans' bd (λi hi e=>by omega);exact((Kept.ext (k1.trans dv)).trans eS).trans iG
theorem QU (s0:Nat) (s:St) (A:Option Addr) (cap:Nat) (l:List Int) (n:Nat) (hn:n=l.length) (hl:n<=cap) (qM:cap<=9223372036854775807) (w:World) (hs:ai w s0 317 s.cells) (hA:(A=none/\n=0/\cap=0)∨∃b off,A=some ⟨b,off,none⟩) (hm:n%8=0):
 Calls prog 308 #[.pointer (some ⟨s0,0,none⟩),.slice A n cap] w λe w'=>e=.returned (.tuple #[])/\ai w' s0 317 (taken (taken s (B' (GR l))) n).cells/\Kept (·=s0) w w':=by
 have VT:GR l=adU:=by
  unfold GR;rw [List.drop_of_length_le ad]
  rfl
 rw [VT];clear VT hn;have hlo:n / 8*8=n:=by omega
 have hs0:=ai.lt hs
 have ael:(A=none/\n=0/\cap=0)∨∃b off,A=some ⟨b,off,none⟩/\(cap=n∨¬cap=n):=by
  rcases hA with h|⟨b,off,h⟩
  .exact .inl h
  .exact .inr ⟨b,off,h,by omega⟩
 clear hA;have hq1:(0:Int)<=(n:Int) / 8*8:=by omega
 have T4:((n:Int) / 8*8)=n:=by omega
 have HM:=J hm;clear hm;have om:IntKind.i64.wrap ((n:Int) / 8)=(n:Int) / 8:=IntWalk.i64_in _ ad;have hw3:IntKind.i64.wrap (n:Int)=(n:Int):=IntWalk.i64_in _ ad;clear hlo;have pK:IntKind.i64.wrap 0=0:=by decide
 rcases ael with⟨rfl,rfl,rfl⟩|⟨b,off,rfl,rfl|iF⟩
 all_goals
  go_enter func308,ntmps308;go_wp21;refine fH (λ_=>True) [(0,2),(1,2),(2,2),(3,2),(4,2),(5,2),(6,2),(7,0),(8,2)] ?_;refine fI ?_
  repeat first|refine cx ?_|refine de trivial (by intro w1 hS;exact fV) ?_|refine dc trivial ?_
  refine au (λK hK=>?_);go_simp;simp only [agO];go_simp;refine hK.out _ _ (λ_=>trivial) ?_;clear hK K;refine fx ?_;clear om hw3 hq1 T4 pK;go_wp21;refine aoS (p8 adU adV _) λw3 dv=>?_;have MN:=bX (ai.drew (ai.alloc hs _)) dv;go_wp21;refine(jC _ _ _ _ MN).mono ?_;rintro e w4 ⟨rfl,hs4,eS⟩;go_wp21;refine(jC _ _ _ _ hs4).mono ?_;rintro e w5 ⟨rfl,hs5,iG⟩;go_wp21;go_end0;refine⟨rfl,hs5,?_⟩;have k1:al w w3:=((dM w _).drew).trans dv;exact((Kept.ext k1).trans eS).trans iG
structure Uz (w:World) (A:Option Addr) (n cap:Nat) (l:List Int):Prop where
 len:n=l.length
 le:n<=cap
 mx:cap<=9223372036854775807
 ok:bI l
 at_:(A=none/\n=0/\cap=0)∨∃b off,A=some ⟨b,off,none⟩/\(0<n->Row w b off (cu l))
theorem Uz.kept {S:Nat->Prop} {w w':World} {A:Option Addr} {n cap:Nat} {l:List Int} (h:Uz w A n cap l) (hk:Kept S w w') (hs:∀b off,A=some ⟨b,off,none⟩->0<n->¬S b):Uz w' A n cap l:=by
 refine⟨h.len,h.le,h.mx,h.ok,?_⟩
 rcases h.at_ with h1|⟨b,off,rfl,hr⟩
 .exact .inl h1
 .exact .inr ⟨b,off,rfl,λhn=>(hr hn).kept hk (hs b off rfl hn)⟩
theorem Uz.ext {w w':World} {A:Option Addr} {n cap:Nat} {l:List Int} (h:Uz w A n cap l) (hk:al w w'):Uz w' A n cap l:=h.kept hk (λ_ _ _ _ f=>f)
section
variable (s0:Nat) (s:St) (A:Option Addr) (cap:Nat) (l:List Int) (n:Nat) (w:World) (hs:ai w s0 317 s.cells) (hb:Uz w A n cap l)
include s0 s A cap l n w hs hb
theorem ZV:
 Calls prog 308 #[.pointer (some ⟨s0,0,none⟩),.slice A n cap] w λe w'=>e=.returned (.tuple #[])/\ai w' s0 317 (taken (taken s (B' (GR l))) n).cells/\Kept (·=s0) w w':=by
 by_cases hm:n%8=0
 .refine QU s0 s A cap l n hb.len hb.le hb.mx w hs ?_ hm
  rcases hb.at_ with h|⟨b,off,h,_⟩
  .exact .inl h
  .exact .inr ⟨b,off,h⟩
 .rcases hb.at_ with⟨_,h,_⟩|⟨b,off,rfl,hr⟩
  .subst h;exact absurd rfl hm
  .exact UX s0 s b off cap l n hb.len hb.le hb.mx hb.ok w hs (hr ad) ad
theorem XF (iF:∀b off,A=some ⟨b,off,none⟩->0<n->¬b=s0):
 Calls prog 307 #[.pointer (some ⟨s0,0,none⟩),.slice A n cap] w λe w'=>e=.returned (.tuple #[])/\ai w' s0 317 (CP s l (n / 8)).cells/\Kept (·=s0) w w':=by
 rcases hb.at_ with⟨h1,h2,_⟩|⟨b,off,rfl,hr⟩
 .exact Fv s0 s A 0 0 cap l n hb.len hb.le hb.mx hb.ok w hs (λh=>by omega) (λh=>by omega) (λh=>by omega)
 .exact Fv s0 s _ b off cap l n hb.len hb.le hb.mx hb.ok w hs (λ_=>rfl) hr (λh=>iF b off rfl h)
theorem Es (iF:∀b off,A=some ⟨b,off,none⟩->0<n->¬b=s0):
 Calls prog 277 #[.pointer (some ⟨s0,0,none⟩),.slice A n cap] w λe w'=>e=.returned (.tuple #[])/\ai w' s0 317 (AW s l).cells/\Kept (·=s0) w w':=by
 have HB:=J hb;have HN:=J iF;clear hb iF;go_enter func277,ntmps277;go_wp21;refine(XF s0 s A cap l n w hs HB.o HN.o).mono ?_;rintro e w1 ⟨rfl,xp,aw⟩;go_wp21;refine(ZV s0 _ A cap l n w1 xp (HB.o.kept aw HN.o)).mono ?_;rintro e w2 ⟨rfl,td,bd⟩;go_wp21;go_end0;refine⟨rfl,?_,aw.trans bd⟩;unfold AW;rw [<-HB.o.len];exact td
end
def hOf (l:List Int):Dg:=out (AW (bg 1) l)
def Jr (d:Dg) (l:List Int):Dg:=out (AW (taken (bg 4) (B' d)) l)
theorem Nu (A:Option Addr) (cap:Nat) (l:List Int) (n:Nat) (w:World) (hb:Uz w A n cap l) (aP:∀b off,A=some ⟨b,off,none⟩->0<n->b<w.heap.size):
 Calls prog 233 #[.slice A n cap] w λe w'=>e=.returned (.agg (hOf l).cells)/\al w w':=by
 have HB:=J hb;have HN:=J aP;clear hb aP;refine Oz ?_;intro aF fz;go_enter func233,ntmps233;go_wp21;refine aoS (rZ 1 _) λw1 aw=>?_;have hsz:=(aF.trans aw).size;go_wp21;refine(Es _ (bg 1) A cap l n _ (bN w1 _ _) (HB.o.ext ((aF.trans aw).alloc _)) (λb off h1 h2=>by have:=HN.o b off h1 h2;omega)).mono ?_;rintro e w2 ⟨rfl,td,bd⟩;have V8:al w1 w2:=(dM w1 _).trans' bd (λi hi e=>by omega);go_wp21;refine aoS (sj _ _ _ td) λw3 dv=>?_;have o4:=bX (bX fz aw) (V8.trans dv);have hh3:=bH o4;have T0:=ai.aC o4;go_wp21;refine bu results233 rfl rfl dU kH (ai.cw o4 _ _) ⟨rfl,?_⟩;exact Kept.putAt (((aF.trans aw).trans V8).trans dv) _ _ _ (λh=>by omega)
def CF (s:ByteArray):List Int:=s.data.toList.map λb=>(b.toNat:Int)
theorem yP (s:ByteArray):(CF s).length=s.size:=by simp [CF]
theorem aaP (s:ByteArray):bI (CF s):=by
 intro x hx;simp only [CF,List.mem_map]at hx;obtain⟨b,_,rfl⟩:=hx;have:=b.toNat_lt
 omega
section
variable (w:World) (e:TypeId) (s:ByteArray)
include w e s
theorem AX:al w (Lib.bytesWorld w e s):=
 ⟨rfl,rfl,rfl,by rw [Lib.bytesWorld_size];omega,λk hk _=>Lib.bytesWorld_at_old w e s k hk⟩
theorem AY:Row (Lib.bytesWorld w e s) w.heap.size 0 (cu (CF s)):=by
 have hl:(cu (CF s)).length=s.size:=by rw [dR,yP]
 have hc:(Lib.bytesCells w e s).size=s.size+(grownCap w s.size 0 e - s.size):=by simp [Lib.bytesCells]
 refine⟨?_,?_,by rw [Lib.bytesWorld_size];omega⟩
 .unfold has;rw [Lib.bytesWorld_at_new,hl];simp [hc]
 .unfold gets;rw [Lib.bytesWorld_at_new,hl]
  simp only [re]
  congr 1
  simp only [Lib.bytesCells,Array.toList_append,Array.toList_map];rw [List.take_append_of_le_length aB,kI aB];simp [cu,CF]
theorem DQ (hs:s.size<=maxLen):Uz (Lib.bytesWorld w e s) (some ⟨w.heap.size,0,none⟩) s.size (grownCap w s.size 0 e) (CF s):=
 ⟨(yP s).symm,grownCap_ge _ _ _ _,by have:=grownCap_le_maxLen w s.size 0 e hs;unfold maxLen at this;omega,aaP s,.inr ⟨_,_,rfl,λ_=>AY w e s⟩⟩
end
theorem ZP (w:World) (s:ByteArray):(convert 9 89 (.string s)).run prog w=.ok (.slice (some ⟨w.heap.size,0,none⟩) s.size (grownCap w s.size 0 5)) (Lib.bytesWorld w 5 s):=
 Lib.run_convert_string_bytes w _ _ _ s underlying9 underlying89 underlying5
theorem iZ (d:Dg) (hd:d.ok) (s:ByteArray) (hsz:s.size<=maxLen) (w:World):
 Calls prog 219 #[.agg #[.int .u8 d.x0,.int .u8 d.x1,.int .u8 d.x2,.int .u8 d.x3,.int .u8 d.x4,.int .u8 d.x5,.int .u8 d.x6,.int .u8 d.x7],.string s] w λe w'=>e=.returned (.agg (Jr d (CF s)).cells)/\al w w':=by
 have HD:=J hd;have HZ:=J hsz;clear hd hsz;refine ajN ?_;intro aF hA0 fz;have TO:=λw=>ZP w s;go_enter func219,ntmps219;go_wp21;refine aoS (rZ 4 _) λw1 aw=>?_;have oS:=bX hA0 aw;have g_:=bX fz aw;have LD:=ai.lt oS;have Jw:=bH oS;have Rn:=bG oS;go_wp21;refine aoS (p8 d HD.o _) λw2 bd=>?_;have td:=bX (bN w1 317 (bg 4).cells) bd;go_wp21;refine(jC _ _ _ _ td).mono ?_;rintro e w3 ⟨rfl,MN,dv⟩;have aal:al w1 w3:=((dM w1 _).trans bd).trans' dv (λi hi e=>by omega);have hl3:=ai.lt MN;go_wp21;have hxb:=AX w3 5 s;refine(Es _ _ _ _ (CF s) _ _ (bX MN hxb) (DQ w3 _ s HZ.o) (λb off h1 h2=>by injection h1 with h1;injection h1 with h1;omega)).mono ?_;rintro e w4 ⟨rfl,hs4,eS⟩;have ain:al w1 w4:=(aal.trans hxb).trans' eS (λi hi e=>by omega);go_wp21;refine aoS (sj _ _ _ hs4) λw5 iG=>?_;have tV:=bX g_ (ain.trans iG);have hh5:=bH tV;have hm5:=ai.aC tV;go_wp21;refine bu results219 rfl rfl dU kH (ai.cw tV _ _) ⟨rfl,?_⟩;exact Kept.putAt (((aF.trans aw).trans ain).trans iG) _ _ _ (λh=>by omega)
end Mc
section
open Mc
theorem ai.eq {w:World} {g:Nat} {t:TypeId} {cs ZR:Array Value} (h:ai w g t cs) (e:cs=ZR):ai w g t ZR:=e▸h
end
namespace Mc
theorem Gq:(prog.info? 5).map (λi=>(i.zero,i.size,i.bytes))=some (some (.int .u8 0),1,1):=by kernel_rfl
theorem FT (w:World) (base:Nat) (v:Value) (n:Nat) (xs:List Int) (gp:w.ownsRow base 5 1 v n (cu xs)) (b off m c:Nat) (l:List Int) (hm:m=l.length) (hr:Row w b off (cu l)) (hn:n+m<=100000) (gL:base<=w.heap.size):
 ∃v' w',(Builtin.append_ #[89,89] 89 #[v,.slice (some ⟨b,off,none⟩) m c]).run prog w=.ok v' w'/\w'.ownsRow base 5 1 v' (n+m) (cu (xs++l))/\Kept (λi=>v.ownBlock=some i) w w':=by
 obtain⟨i,hi,hz,h1,h2⟩:=info_parts Gq;have:=oX (P:=prog) underlying89 hi hz h1 h2 fK ap w base v n (cu xs) gp b off m c (cu l) (by rw [dR,hm,Nat.mul_one]) hr (Et l) Ib ad gL;rw [show cu xs++cu l=cu (xs++l)by simp [cu]]at this;exact this
theorem nD {w:World} {base:Nat} {v:Value} {n:Nat} {xs:List Int} (h:w.ownsRow base 5 1 v n (cu xs)) (hn:0<n):∃g c,v=.slice (some ⟨g,0,none⟩) n c/\base<=g/\Row w g 0 (cu xs)/\n<=c/\c<=maxLen/\n=xs.length:=by
 have hl:=h.1;rw [dR,Nat.mul_one]at hl
 rcases h.2 with⟨_,h0⟩|⟨g,c,cV,hv,hb,hc,rB,vu,kL,mX⟩
 .omega
 .refine⟨g,c,hv,hb,?_,rB,vu,hl.symm⟩
  exact akY
end Mc
section
open Mc
end
namespace Mc
variable{dst:Option Tmp}{pos:String}{after:Array Edge}{guard:Option (Nat×Bool)}
def aiy:List Int:=[108,101,97,102]
def aiO:List Int:=[110,111,110,101]
def Rb (d:Dg):Dg:=Jr d aiy
theorem kj (d:Dg) (l:List Int):(Jr d l).ok:=Ny _
theorem Gd (a b:Dg):(tX a b).ok:=Ny _
theorem aee (l:List Int):(hOf l).ok:=Ny _
theorem Gz (d:Dg) (hd:d.ok) (w:World):Calls prog 166 #[.agg #[.int .u8 d.x0,.int .u8 d.x1,.int .u8 d.x2,.int .u8 d.x3,.int .u8 d.x4,.int .u8 d.x5,.int .u8 d.x6,.int .u8 d.x7]] w λe w'=>e=.returned (.agg (Rb d).cells)/\al w w':=by
 have HD:=J hd;clear hd;have aF:al w _:=(dM w (.cells #[.int .u8 d.x0,.int .u8 d.x1,.int .u8 d.x2,.int .u8 d.x3,.int .u8 d.x4,.int .u8 d.x5,.int .u8 d.x6,.int .u8 d.x7] 25)).alloc (.cells Dg.zero.cells 25);have fz:ai _ (w.heap.size+1) 25 Dg.zero.cells:=ai.ea (w.alloc (.cells #[.int .u8 d.x0,.int .u8 d.x1,.int .u8 d.x2,.int .u8 d.x3,.int .u8 d.x4,.int .u8 d.x5,.int .u8 d.x6,.int .u8 d.x7] 25)) _ _ _ aB;go_enter func166,ntmps166;go_wp21;refine(iZ d HD.o _ ap _).mono ?_;rintro e w1 ⟨rfl,aw⟩;have g_:=bX fz aw;have Jw:=bH g_;have EP:=ai.aC g_;go_wp21;refine bu results166 rfl rfl dU kH (ai.cw g_ _ _) ⟨rfl,?_⟩;exact Kept.putAt (aF.trans aw) _ _ _ (λh=>by omega)
def QK (h:Nat):ByteArray:=if h<10 then⟨#[UInt8.ofNat (48+h)]⟩else⟨#[49,UInt8.ofNat (38+h)]⟩
theorem aeL (h:Nat) (hh:h<=12) (w:World):Calls prog 224 #[.int .i64 h] w λe w'=>e=.returned (.string (QK h))/\w=w':=by
 rcases(by omega:h=0∨h=1∨h=2∨h=3∨h=4∨h=5∨h=6∨h=7∨h=8∨h=9∨h=10∨h=11∨h=12)with rfl|rfl|rfl|rfl|rfl|rfl|rfl|rfl|rfl|rfl|rfl|rfl|rfl
 all_goals
  clear hh;go_enter func224,ntmps224
  go_wp2
  go_ret;exact⟨by kernel_rfl,rfl⟩
def PW (h:Nat):ByteArray:=⟨#[114,111,111,116]⟩++QK h
def aiT (h:Nat):List Int:=CF (PW h)
def Vk (d:Dg) (h:Nat):Dg:=Jr d (aiT h)
theorem EA (h:Nat):(QK h).size<=2:=by
 unfold QK
 split
 .exact Nat.le_succ 1
 .exact cr 2
theorem NM (h:Nat):(PW h).size<=maxLen:=by
 have:=EA h;have e:(⟨#[114,111,111,116]⟩:ByteArray).size=4:=rfl;unfold PW maxLen;rw [ByteArray.size_append,e]
 omega
theorem P1 (d:Dg) (hd:d.ok) (h:Nat) (hh:h<=12) (w:World):Calls prog 158 #[.agg #[.int .u8 d.x0,.int .u8 d.x1,.int .u8 d.x2,.int .u8 d.x3,.int .u8 d.x4,.int .u8 d.x5,.int .u8 d.x6,.int .u8 d.x7],.int .i64 h] w λe w'=>e=.returned (.agg (Vk d h).cells)/\al w w':=by
 have HD:=J hd;clear hd;refine ajN ?_;intro aF hA0 fz;go_enter func158,ntmps158;go_wp21;refine fH (λw1=>al ((w.alloc (.cells #[.int .u8 d.x0,.int .u8 d.x1,.int .u8 d.x2,.int .u8 d.x3,.int .u8 d.x4,.int .u8 d.x5,.int .u8 d.x6,.int .u8 d.x7] 25)).alloc (.cells Dg.zero.cells 25)) w1) [(0,1),(1,2),(2,0),(3,2),(4,0),(5,0)] ?_;refine fI ?_
 repeat first|refine cx ?_|refine de fU ajA ?_|refine dc fU ?_
 refine au (λK hK=>?_);go_simp;go_wp21;refine aoT (aeL h hh _) ?_;refine hK.out _ _ (λh=>h) ?_;clear hK K
 have JH:(⟨#[114,111,111,116]⟩:ByteArray).size+(QK h).size<=9223372036854775807:=by
  have:=EA h;have e:(⟨#[114,111,111,116]⟩:ByteArray).size=4:=rfl
  omega
 have aeh:=λw=>run_string_add_sum (P:=prog) w ⟨#[114,111,111,116]⟩ (QK h) JH;clear JH
 repeat refine cx ?_
 clear aeh;refine au (λK hK=>?_);go_simp;go_wp21;refine aoS (iZ d HD.o (PW h) (NM h) _) λw2 bd=>?_;have BH:al ((w.alloc (.cells #[.int .u8 d.x0,.int .u8 d.x1,.int .u8 d.x2,.int .u8 d.x3,.int .u8 d.x4,.int .u8 d.x5,.int .u8 d.x6,.int .u8 d.x7] 25)).alloc (.cells Dg.zero.cells 25)) w2:=((kR _ _).drew).trans bd;refine hK.out _ _ (λ_=>BH) ?_;clear hK K;have g_:=bX fz BH;have Jw:=bH g_;have EP:=ai.aC g_;refine fx ?_;go_wp21;refine bu results158 rfl rfl dU kH (ai.cw g_ _ _) ⟨rfl,?_⟩;exact Kept.putAt (aF.trans BH) _ _ _ (λh=>by omega)
def iM (n:Nat):Nat:=Go.Lib.bitLen (n - 1)
theorem sr (n:Nat) (h1:1<=n) (h2:n<=4096) (w:World):Calls prog 186 #[.int .i64 n] w λe w'=>e=.returned (.int .i64 (iM n))/\w=w':=by
 go_enter func186,ntmps186;go_wp21;refine(bits_Len _ _ ad ad).mono ?_;rintro e w1 ⟨rfl,rfl⟩;go_wp21;go_ret;refine⟨bB ?_,rfl⟩;unfold iM
 congr 2
def abU:Dg:=Jr Dg.zero aiO
def fc (l:List Dg):Nat->Nat->Dg
 |0,k=>match l[k]? with|some d=>Rb d|none=>abU
 |v+1,k=>tX (fc l v (2*k)) (fc l v (2*k+1))
theorem B9 (l:List Dg):∀v k,(fc l v k).ok
 |0,k=>by
  unfold fc
  split
  .exact kj _ _
  .exact kj _ _
 |v+1,k=>Gd _ _
theorem n6:ga prog 74=true:=by kernel_rfl
theorem lV:dr prog 74=some 18:=by kernel_rfl
theorem CW {eD:TypeId} {x:Operand} {a:Act} {w:World} {K:Act->World->Prop} {Q:Exit->Act->World->Prop} (hx:d' (a.eval x)=true) (hh:has w (aG (a.eval x)) (aH (a.eval x)) 18=true):
 Oper.wp prog ⟨dst,.load 74 x,eD,pos,after,guard⟩ a w K Q=K (a.put dst (.agg (gets w (aG (a.eval x)) (aH (a.eval x)) 18))) w:=aY 18 n6 lV hx hh
theorem Km {ρ:Operand->Value} {eD:TypeId} {x:Operand} {w:World} (hx:d' (ρ x)=true) (hh:has w (aG (ρ x)) (aH (ρ x)) 18=true):
 (execOp ρ ⟨dst,.load 74 x,eD,pos,after,guard⟩).run prog w=.ok (.value (.agg (gets w (aG (ρ x)) (aH (ρ x)) 18))) w:=aD 18 n6 lV hx hh
theorem JS (w:World) (g off:Nat) (hh:has w g off 18=true):(loadVar 74 ⟨g,off,none⟩).run prog w=.ok (.agg (gets w g off 18)) w:=cD prog w _ g off 18 n6 lV hh
attribute [go_sem] n6 lV
attribute [go_sem↓high] CW JS Km
attribute [go_sem high] CW
structure Rt where (from_ steps:Int) (ahead behind:Dg) (told:Bool) (mid:Dg) (won:Int)
abbrev Rt.cells (r:Rt):Array Value:=#[.int .i64 r.from_,.int .i64 r.steps,.int .u8 r.ahead.x0,.int .u8 r.ahead.x1,.int .u8 r.ahead.x2,.int .u8 r.ahead.x3,.int .u8 r.ahead.x4,.int .u8 r.ahead.x5,.int .u8 r.ahead.x6,.int .u8 r.ahead.x7,.int .u8 r.behind.x0,.int .u8 r.behind.x1,.int .u8 r.behind.x2,.int .u8 r.behind.x3,.int .u8 r.behind.x4,.int .u8 r.behind.x5,.int .u8 r.behind.x6,.int .u8 r.behind.x7,.bool r.told,.int .u8 r.mid.x0,.int .u8 r.mid.x1,.int .u8 r.mid.x2,.int .u8 r.mid.x3,.int .u8 r.mid.x4,.int .u8 r.mid.x5,.int .u8 r.mid.x6,.int .u8 r.mid.x7,.int .i64 r.won]
attribute [go_sem] Rt.cells
def Rt.turn (r:Rt):Int:=if 0<=r.won then -1 else if r.told then 1 else 0
theorem xR:Go.Lib.bitLen 0=0:=by decide
theorem Er:∀(h x:Nat),x<2^h->h<=60->Go.Lib.bitLen x<=h/\x<2^Go.Lib.bitLen x
 |0,x,hx,_=>by
  obtain rfl:x=0:=by simpa using hx
  rw [xR];simp
 |h+1,x,hx,hh=>by
  rcases Nat.eq_zero_or_pos x with h0|h0
  .subst h0;rw [xR];simp
  .have h64:(2:Nat)^(h+1)<=2^64:=Nat.pow_le_pow_right ad ad
   have hq:(2:Nat)^(h+1)=2*2^h:=by rw [Nat.pow_succ];omega
   have ih:=Er h (x / 2) ad ad;rw [Go.Lib.bitLen_half x ad ad];refine⟨by omega,?_⟩;rw [Nat.add_comm,Nat.pow_succ]
   omega
theorem pT (n:Nat) (h1:1<=n) (h2:n<=4096):iM n<=12/\n<=2^iM n:=by
 have:=Er 12 (n - 1) ad ad;unfold iM
 omega
