/- Several texts joined: Km, Cp, Ce, Cb, Cs, Cq, Cl, Cf, Im. -/
import Derived.MapKept
import Derived.Test.YtbfbabbcdochjaaGreatDoorRapk
import Derived.Test.YtbfbabbcdochjaaGreatDoorRaad
import Derived.Test.YtbfbabbcdochjaaGreatDoorRaav
set_option maxHeartbeats 4000000
namespace Go.Proofs.YtbfbabbcdochjaaGreatDoor.Mc
open Go.RowKit
def itI (c:List Ins):Nat→Int × Int × List Int→Int × Int × List Int
 | 0,s=>s
 | n+1,s=>itI c n (if s.2.1=0 then stepI c s.1 s.2.2 else s)
theorem itI_add (c:List Ins):∀ (a b:Nat) (s:Int × Int × List Int),itI c (a+b) s=itI c b (itI c a s)
 | 0,b,s=>by rw [Nat.zero_add];rfl
 | a+1,b,s=>by rw [show a+1+b=(a+b)+1 by omega];exact itI_add c a b _
theorem itI_halt (c:List Ins) (s:Int × Int × List Int) (h:¬ s.2.1=0):∀ n,itI c n s=s
 | 0=>rfl
 | n+1=>by rw [itI,if_neg h];exact itI_halt c s h n
theorem itI_succ (c:List Ins) (n:Nat) (s:Int × Int × List Int):itI c (n+1) s=if (itI c n s).2.1=0 then stepI c (itI c n s).1 (itI c n s).2.2 else itI c n s:=by
 rw [itI_add];rfl
theorem itI_okay {c:List Ins} (hc:c.length≤2048) {s:Int × Int × List Int} (h:Okay s.1 s.2.1 s.2.2):∀ n,Okay (itI c n s).1 (itI c n s).2.1 (itI c n s).2.2∧(itI c n s).2.2.length=s.2.2.length
 | 0=>⟨h,rfl⟩
 | n+1=>by
  obtain ⟨h1,h2⟩:=itI_okay hc h n
  obtain ⟨h3,h4⟩:=run_okay hc h1
  rw [itI_succ]
  unfold runI at h3 h4
  split at h3
  ·rename_i q
   rw [if_pos q] at h4 ⊢
   exact ⟨h3,h4.trans h2⟩
  ·rename_i q
   rw [if_neg q]
   exact ⟨h1,h2⟩
set_option maxRecDepth 100000 in
theorem run_any (A:Option Addr) (b off cn cap:Nat) (c:List Ins) (pc halt:Int) (b' off' n cap':Nat) (m:List Int) (most:Nat) (hmost:most≤1048576) (w:World) (h:RunPre w A b off cn c b' off' n pc halt m) :
 Calls Tryz.prog 26 #[.slice A cn cap,.agg (stCells pc (some ⟨b',off',none⟩) n cap' halt),.int .i64 most] w fun e w'=>∃ (v:Value) (k:Nat),e=.returned (.tuple #[v,.int .i64 k,.bool (!((itI c most (pc,halt,m)).2.1 == 0))])∧k≤most∧OwnsS w w' v n (itI c most (pc,halt,m)).1 (itI c most (pc,halt,m)).2.1 (itI c most (pc,halt,m)).2.2:=by
 obtain ⟨hops,hcA,hrow,hcn,hcn2,hn,hg,hmok,hmrow⟩:=h
 obtain ⟨h1,h2,h3,h4,h5,h6⟩:=rightS_inv hg
 have HOK:=zhd (show Okay (pc,halt,m).1 (pc,halt,m).2.1 (pc,halt,m).2.2 from ⟨by rw [← hn];exact hg,hmok⟩)
 have HC2:=zhd (show c.length≤2048 by omega)
 have HOP:=zhd hops
 have HA:=zhd hcA
 have HR:=zhd hrow
 have HCN:=zhd hcn
 have HN:=zhd hn
 have HG:=zhd hg
 have HO:=zhd hmok
 clear hops hcA hrow hcn hn hg hmok
 have hx0:Ext w _:=((Kept.refl _ w).alloc (.cells (stCells pc (some ⟨b',off',none⟩) n cap' halt) 49)).alloc (.cells (stCells 0 none 0 0 0) 49)
 have hA0:Blk _ w.heap.size 49 (stCells pc (some ⟨b',off',none⟩) n cap' halt):=Blk.alloc (Blk.new w _ _) (.cells (stCells 0 none 0 0 0) 49)
 have hR0:Blk _ (w.heap.size+1) 49 (stCells 0 none 0 0 0):=Blk.new' (w.alloc (.cells (stCells pc (some ⟨b',off',none⟩) n cap' halt) 49)) _ _ _ (by simp)
 have hr0:=hmrow.ext hx0
 clear hmrow
 go_enter Tryz.func26,Tryz.ntmps26
 go_wp2_with fail
 refine (sclone_any pc halt b' off' cap' m n HN.out h1 (by omega) _ hr0).mono ?_
 rintro e w1 ⟨v1,rfl,g,kc,rfl,hM1,hx1⟩
 have hA1:=Blk.ext hA0 hx1
 have hR1:=Blk.ext hR0 hx1
 have lA:=hA0.lt
 have lR:=hR0.lt
 have hgb:=hM1.ge
 have hh1:=Blk.has hA1
 have hm1:=Blk.melts hA1
 have hA2:Blk (putAt w1 w.heap.size 0 (stCells pc (some ⟨g,0,none⟩) n kc halt)) w.heap.size 49 (stCells pc (some ⟨g,0,none⟩) n kc halt):=Blk.put_ hA1 _ _
 have hR2:=Blk.putFar hR1 (show w.heap.size+1 ≠ w.heap.size by omega) 0 (stCells pc (some ⟨g,0,none⟩) n kc halt)
 have hM2:MemAt (putAt w1 w.heap.size 0 (stCells pc (some ⟨g,0,none⟩) n kc halt)) w.heap.size g n kc m:=own_mono (hM1.kept (Kept.putAt (S:=(·=w.heap.size)) (Kept.refl _ w1) w.heap.size 0 (stCells pc (some ⟨g,0,none⟩) n kc halt) (fun _=>rfl)) (by omega)) (by omega)
 have y2:Ext w (putAt w1 w.heap.size 0 (stCells pc (some ⟨g,0,none⟩) n kc halt)):=Kept.putAt (hx0.trans hx1) _ _ _ (fun h=>by omega)
 go_upto_region 2 with (fail)
 clear hA0 hR0 hA1 hR1 hM1 hh1 hm1 hx0 hr0
 generalize (putAt w1 w.heap.size 0 (stCells pc (some ⟨g,0,none⟩) n kc halt))=W2 at hA2 hR2 hM2 y2 ⊢
 have i1:=Blk.has hA2
 have i2:=Blk.gets hA2
 go_wp2_with fail
 refine (right_any pc halt (some ⟨g,0,none⟩) n kc _).mono ?_
 rintro e w3 ⟨rfl,hx3⟩
 rw [HG.out]
 have hA3:=Blk.ext hA2 hx3
 have hR3:=Blk.ext hR2 hx3
 have hM3:=hM2.ext hx3
 have y3:=y2.trans hx3
 clear hA2 hR2 hM2 y2 hx3 i1 i2
 go_wp2_with fail
 refine (twos_any _).mono ?_
 rintro e w4 ⟨rfl,hQ4,hx4⟩
 have hA4:=Blk.ext hA3 hx4
 have hR4:=Blk.ext hR3 hx4
 have hM4:=hM3.ext hx4
 have y4:=y3.trans hx4
 have lg:=hM3.lt
 clear hA3 hR3 hM3 y3 hx4
 generalize w3.heap.size=q at hQ4 lg ⊢
 have hgS:¬ w.heap.size=g:=by omega
 go_wp2_with fail
 go_loopw [10] (fun t10 wr=>∃ (k:Nat),t10=.int .i64 k∧k≤most∧StAt wr w.heap.size 49 (itI c k (pc,halt,m)).1 (some ⟨g,0,none⟩) n kc (itI c k (pc,halt,m)).2.1∧MemAt wr w.heap.size g n kc (itI c k (pc,halt,m)).2.2∧Kept (fun i=>i=w.heap.size ∨ i=g) w4 wr) (fun t10 _=>most - (intOf t10).toNat)
 case atStart=>exact ⟨0,rfl,Nat.zero_le _,hA4,hM4,Kept.refl _ _⟩
 case round =>
  obtain ⟨k,rfl,hk,hA,hM,hK4⟩:=hrel
  have hRr:=Blk.kept hR4 hK4 (by omega)
  have yr:Ext w wr:=y4.trans' hK4 (fun i hi e=>by omega)
  obtain ⟨hok,hlen⟩:=itI_okay HC2.out (s:=(pc,halt,m)) HOK.out k
  have hsucc:=itI_succ c k (pc,halt,m)
  obtain ⟨r,hr⟩:∃ r,r=itI c k (pc,halt,m):=⟨_,rfl⟩
  rw [← hr] at hA hM hok hlen hsucc
  have HRR:=zhd hr
  clear hr
  obtain ⟨pc',halt',m'⟩:=r
  simp only at hA hM hok hlen hsucc
  have HLEN:=zhd hlen
  have HOKK:=zhd hok
  have HSUCC:=zhd hsucc
  clear hok hlen hsucc
  by_cases hgo:k < most∧halt'=0
  ·obtain ⟨hlt,rfl⟩:=hgo
   obtain ⟨_,_,p0,p1,_,_⟩:=rightS_inv HOKK.out.right
   have hpre:StepPre wr w.heap.size w.heap.size g n kc q A b off cn c pc' m' :=
    ⟨HN.out.trans HLEN.out.symm,h1,h2,HOKK.out.mok,HOP.out.ext yr,hA,hM,hQ4.kept hK4 (by omega),HA.out,fun h0=>(HR.out h0).ext yr,HCN.out,hcn2,p0,p1,hgS⟩
   have HPRE:=zhd hpre
   clear hpre
   have hcA:=Blk.cell hA
   have hltI:(k:Int) < min (most:Int) 1048576:=by omega
   go_wp2_with fail
   refine (step_any wr w.heap.size w.heap.size g n kc q A b off cn cap c pc' m' HPRE.out).mono ?_
   rintro e w5 ⟨rfl,hst5⟩
   have e1:stepI c pc' m'=itI c (k+1) (pc,halt,m):=by rw [HSUCC.out];simp
   rw [e1] at hst5
   have HST:=zhd hst5
   clear hst5 e1
   go_wp2_with fail
   go_roundw
   case rel=>exact ⟨k+1,by go_num,hlt,HST.out.st,HST.out.mem,hK4.trans HST.out.kept⟩
   case measure=>simp only [intOf];omega
  ·have hfin:itI c most (pc,halt,m)=(pc',halt',m'):=by
    rcases Nat.lt_or_ge k most with hlt | hge
    ·rw [show most=k+(most - k) by omega,itI_add,← HRR.out,itI_halt]
     exact fun z=>hgo ⟨hlt,z⟩
    ·rw [show most=k by omega,HRR.out]
   have HFIN:=zhd hfin
   have hstop:(k:Int) < min (most:Int) 1048576→(halt' == 0)=false:=fun hq=>by
    have:¬ halt'=0:=fun z=>hgo ⟨by omega,z⟩
    simpa using this
   clear hfin hgo
   have hcA:=Blk.cell hA
   have lA:=hA.lt
   have lR:=hRr.lt
   have hhR:=Blk.has hRr
   have hmR:=Blk.melts hRr
   have fin:∀ wz:World,Blk wz (w.heap.size+1) 49 (stCells pc' (some ⟨g,0,none⟩) n kc halt')→MemAt wz w.heap.size g n kc m'→Ext w wz→∃ (v:Value) (k':Nat),Ending.returned (.tuple #[.agg (stCells pc' (some ⟨g,0,none⟩) n kc halt'),.int .i64 k,.bool (!(halt' == 0))])=.returned (.tuple #[v,.int .i64 k',.bool (!((itI c most (pc,halt,m)).2.1 == 0))])∧k'≤most∧OwnsS w wz v n (itI c most (pc,halt,m)).1 (itI c most (pc,halt,m)).2.1 (itI c most (pc,halt,m)).2.2:=fun wz _ hMz yz=>by
    rw [HFIN.out]
    exact ⟨_,k,rfl,hk,g,kc,rfl,hMz,yz⟩
   have FIN:=zhd fin
   clear fin
   by_cases hlt:(k:Int) < min (most:Int) 1048576
   ·have hs0:=hstop hlt
    clear hstop
    exact zz15
   ·clear hstop
    exact zz15
end Go.Proofs.YtbfbabbcdochjaaGreatDoor.Mc
namespace Go.Proofs.YtbfbabbcdochjaaGreatDoor.So
open Go.RowKit Mc
abbrev w32 (x:Int):Int:=IntKind.i32.wrap x
structure Mk where (V:List Vr) (seats:Int) (b:Int)
def fr (b:Int) (i:Int):Int:=b+33+i
def twoOp (op:Int):Int:=if op=5 ∨ op=6 ∨ op=7 then op else if op=8 then 3 else if op=9 then 4 else if op=10 then 8 else if op=11 then 9 else if op=12 ∨ op=14 then 10 else if op=13 ∨ op=15 then 11 else if op=16 then 12 else if op=17 then 13 else 0
abbrev Wd:=Str→Int
def cE (k:Mk) (W:Wd):EF→Nat→Int→List Ins
 | .nil,_,_=>[]
 | .cons _ _ _ _ r,j+1,tw=>cE k W r j tw
 | .cons op n name kids _,0,tw =>
  if op=0 then [⟨1,fr k.b tw,n,0⟩]
  else if op=1 then [⟨2,fr k.b tw,W name,0⟩]
  else if op=2 then cE k W kids 0 tw ++ [⟨18,fr k.b (tw+1),fr k.b tw,(cellX k.V name).size⟩,⟨5,fr k.b tw,fr k.b tw,fr k.b (tw+1)⟩,⟨15,fr k.b tw,W name,fr k.b tw⟩,⟨5,fr k.b tw,fr k.b tw,fr k.b (tw+1)⟩]
  else if op=3 then cE k W kids 0 tw ++ [⟨1,fr k.b (tw+1),0,0⟩,⟨4,fr k.b tw,fr k.b (tw+1),fr k.b tw⟩]
  else if op=4 then cE k W kids 0 tw ++ [⟨14,fr k.b tw,fr k.b tw,0⟩]
  else if op=14 ∨ op=15 then cE k W kids 1 tw ++ cE k W kids 0 (tw+1) ++ [⟨twoOp op,fr k.b tw,fr k.b tw,fr k.b (tw+1)⟩]
  else cE k W kids 0 tw ++ cE k W kids 1 (tw+1) ++ [⟨twoOp op,fr k.b tw,fr k.b tw,fr k.b (tw+1)⟩]
def updW (W:Wd) (s:Str) (v:Int):Wd:=fun t=>if t=s then v else W t
def someI (k:Mk) (i:Int):List Ins:=[⟨18,fr k.b (i+1),fr k.b i,k.seats⟩,⟨5,fr k.b i,fr k.b i,fr k.b (i+1)⟩]
def cS0 (k:Mk) (W:Wd) (at_:Int) (kind:Int) (name:Str) (e:EF) (low:Int):List Ins :=
 if kind=0 then cE k W e 0 0 ++ [⟨17,fr k.b 0,(cellX k.V name).low,(cellX k.V name).high⟩,⟨2,W name,fr k.b 0,0⟩]
 else if kind=1 then cE k W e 0 0 ++ cE k W e 1 1 ++ [⟨18,fr k.b 2,fr k.b 0,(cellX k.V name).size⟩,⟨20,at_+(cE k W e 0 0).length+(cE k W e 1 1).length+4,fr k.b 2,0⟩,⟨17,fr k.b 1,(cellX k.V name).low,(cellX k.V name).high⟩,⟨16,W name,fr k.b 0,fr k.b 1⟩]
 else if kind=4 then [⟨0,1,0,0⟩]
 else if kind=5 then [⟨1,k.b+5,W name,0⟩,⟨1,k.b+6,low,0⟩]
 else if kind=6 then cE k W e 0 0 ++ [⟨2,k.b+4,fr k.b 0,0⟩,⟨0,0,0,0⟩]
 else if kind=7 then [⟨1,k.b+4,-1,0⟩,⟨0,0,0,0⟩]
 else if kind=8 then cE k W e 1 0 ++ cE k W e 0 1 ++ someI k 1 ++ [⟨17,fr k.b 0,0,1073741823⟩,⟨15,fr k.b 2,k.b+8,fr k.b 1⟩,⟨3,fr k.b 0,fr k.b 0,fr k.b 2⟩,⟨17,fr k.b 0,0,1073741823⟩,⟨16,k.b+8,fr k.b 1,fr k.b 0⟩]
 else cE k W e 0 0 ++ someI k 0 ++ [⟨2,k.b+7,fr k.b 0,0⟩]
def cIf (k:Mk) (at_:Int) (E L X:List Ins):List Ins :=
 E ++ [⟨20,at_+E.length+1+L.length+1,fr k.b 0,0⟩] ++ L ++ [⟨19,at_+E.length+1+L.length+1+X.length,0,0⟩] ++ X
def cIf1 (k:Mk) (at_:Int) (E L:List Ins):List Ins:=E ++ [⟨20,at_+E.length+1+L.length,fr k.b 0,0⟩] ++ L
def upI (k:Mk) (f:Nat):Int:=k.b+17+2 * f
def cFor (k:Mk) (f:Nat) (at_ low high:Int) (B:List Ins):List Ins :=
 [⟨1,k.b+16,1,0⟩,⟨1,upI k f,low,0⟩,⟨1,upI k f+1,high - low+1,0⟩] ++ B ++ [⟨3,upI k f,upI k f,k.b+16⟩,⟨4,upI k f+1,upI k f+1,k.b+16⟩,⟨21,at_+3,upI k f+1,0⟩]
def cB (k:Mk):SF→Wd→Nat→Int→List Ins
 | .nil,_,_,_=>[]
 | .cons kind name e low high l els r,W,f,at_ =>
  (if kind=2 then (if els.isNil then cIf1 k at_ (cE k W e 0 0) (cB k l W f (at_+(cE k W e 0 0).length+1))
   else cIf k at_ (cE k W e 0 0) (cB k l W f (at_+(cE k W e 0 0).length+1)) (cB k els W f (at_+(cE k W e 0 0).length+1+(cB k l W f (at_+(cE k W e 0 0).length+1)).length+1)))
   else if kind=3 then (if high < low then [] else cFor k f at_ low high (cB k l (updW W name (upI k f)) (f+1) (at_+3)))
   else cS0 k W at_ kind name e low) ++
  cB k r W f (at_+(if kind=2 then (if els.isNil then cIf1 k at_ (cE k W e 0 0) (cB k l W f (at_+(cE k W e 0 0).length+1))
   else cIf k at_ (cE k W e 0 0) (cB k l W f (at_+(cE k W e 0 0).length+1)) (cB k els W f (at_+(cE k W e 0 0).length+1+(cB k l W f (at_+(cE k W e 0 0).length+1)).length+1)))
   else if kind=3 then (if high < low then [] else cFor k f at_ low high (cB k l (updW W name (upI k f)) (f+1) (at_+3)))
   else cS0 k W at_ kind name e low).length)
def cS (k:Mk) (W:Wd) (f:Nat) (at_:Int) (kind:Int) (name:Str) (e:EF) (low high:Int) (l els:SF):List Ins :=
 if kind=2 then (if els.isNil then cIf1 k at_ (cE k W e 0 0) (cB k l W f (at_+(cE k W e 0 0).length+1))
  else cIf k at_ (cE k W e 0 0) (cB k l W f (at_+(cE k W e 0 0).length+1)) (cB k els W f (at_+(cE k W e 0 0).length+1+(cB k l W f (at_+(cE k W e 0 0).length+1)).length+1)))
  else if kind=3 then (if high < low then [] else cFor k f at_ low high (cB k l (updW W name (upI k f)) (f+1) (at_+3)))
  else cS0 k W at_ kind name e low
theorem cB_cons (k:Mk) (W:Wd) (f:Nat) (at_:Int) (kind:Int) (name:Str) (e:EF) (low high:Int) (l els r:SF) :
 cB k (.cons kind name e low high l els r) W f at_=cS k W f at_ kind name e low high l els ++ cB k r W f (at_+(cS k W f at_ kind name e low high l els).length):=by
 rw [cB];rfl
/-! ### what rules mean -/
structure RS where (vars:List Int) (binds:List (Str × Int)) (over refused:Bool) (seat cell sides:Int) (asks:List Int) (rest:Int)
def bindG (l:List (Str × Int)) (s:Str):Option Int:=(l.find? (fun x=>decide (x.1=s))).map (·.2)
def nameV (V:List Vr) (R:RS) (s:Str):Int:=match bindG R.binds s with | some v=>v | none=>R.vars.getD (cellN V s).toNat 0
def divR (a b:Int):Int:=if b=0 then 0 else w32 (a.tdiv b)
def join (op a b:Int):Int :=
 if op=5 then w32 (a * b) else if op=6 then divR a b else if op=7 then (if b=0 then 0 else w32 (a - divR a b * b))
 else if op=8 then w32 (a+b) else if op=9 then w32 (a - b) else if op=10 then truthI (a == b) else if op=11 then truthI (a != b)
 else if op=12 then truthI (decide (a < b)) else if op=13 then truthI (decide (a≤b)) else if op=14 then truthI (decide (a > b)) else if op=15 then truthI (decide (a ≥ b))
 else if op=16 then truthI (a != 0 && b != 0) else truthI (a != 0 || b != 0)
def ev (V:List Vr) (R:RS):EF→Nat→Int
 | .nil,_=>0
 | .cons _ _ _ _ r,j+1=>ev V R r j
 | .cons op n name kids _,0 =>
  if op=0 then w32 n
  else if op=1 then nameV V R name
  else if op=2 then (if ev V R kids 0 < 0 ∨ (cellX V name).size≤ev V R kids 0 then 0 else R.vars.getD (cellN V name+ev V R kids 0).toNat 0)
  else if op=3 then join 9 0 (ev V R kids 0)
  else if op=4 then truthI (ev V R kids 0 == 0)
  else join op (ev V R kids 0) (ev V R kids 1)
/-! ### how many steps -/
def ownE (op:Int):Nat:=if op=0 ∨ op=1 then 1 else if op=2 then 6 else 2
def costF:EF→Nat
 | .nil=>0
 | .cons op _ _ kids r=>(ownE op+if op=0 ∨ op=1 then 0 else costF kids)+costF r
def ownS (kind:Int):Nat:=if kind=1 then 6 else if kind=4 ∨ kind=7 then 2 else if kind=5 then 4 else if kind=8 then 8 else if 0≤kind∧kind≤9 then 3 else 1
def hasE (kind:Int):Bool:=decide (kind=0 ∨ kind=1 ∨ kind=2 ∨ kind=6 ∨ kind=8 ∨ kind=9)
def costB:SF→Nat
 | .nil=>0
 | .cons kind _ e low high l els r =>
  (ownS kind+(if hasE kind then costF e else 0)+if kind=2 then max (costB l) (costB els) else if kind=3∧low≤high then ((min (high - low) 65536).toNat+1) * (4+costB l) else 0)+costB r
open Go.RowKit Mc
/-! ### steps -/
def okC (c:List Ins) (k:Nat):Prop:=∀ i ∈ c,rightI i c.length k=true
def Seg (c:List Ins) (pc:Int) (l:List Ins):Prop:=0≤pc∧∀ j:Nat,j < l.length→c[pc.toNat+j]?=l[j]?
theorem Seg.right {c:List Ins} {pc:Int} {a b:List Ins} (h:Seg c pc (a ++ b)):Seg c (pc+a.length) b :=
 ⟨by have:=h.1;omega,fun j hj=>by
  have h1:=h.1
  have:=h.2 (a.length+j) (by rw [List.length_append];omega)
  rw [List.getElem?_append_right (by omega)] at this
  rw [show (pc+a.length).toNat+j=pc.toNat+(a.length+j) by omega,this]
  congr 1
  omega⟩
theorem Seg.head {c:List Ins} {pc:Int} {i:Ins} {l:List Ins} (h:Seg c pc (i :: l)):c[pc.toNat]?=some i:=by
 have:=h.2 0 (by simp)
 simpa using this
theorem Seg.tail {c:List Ins} {pc:Int} {i:Ins} {l:List Ins} (h:Seg c pc (i :: l)):Seg c (pc+1) l:=by
 have:=Seg.right (a:=[i]) (b:=l) h
 simpa using this
theorem mget_put {m:List Int} {i j:Int} (v:Int) (hi:0≤i) (hj:0≤j) (h:i < m.length):mget (mput m i v) j=if j=i then v else mget m j:=by
 unfold mget mput
 rw [List.getD_eq_getElem?_getD,List.getElem?_set]
 by_cases e:j=i
 ·subst e
  rw [if_pos rfl,if_pos rfl,if_pos (by omega)]
  rfl
 ·rw [if_neg e,if_neg (by omega),List.getD_eq_getElem?_getD]
theorem mput_len (m:List Int) (i v:Int):(mput m i v).length=m.length:=by simp [mput]
theorem mput_ok {m:List Int} {i v:Int} (hm:∀ x ∈ m,i32ok x) (hv:i32ok v):∀ x ∈ mput m i v,i32ok x:=fun x hx=>by
 rcases List.mem_or_eq_of_mem_set hx with h | h
 ·exact hm x h
 ·rw [h];exact hv
theorem truth_ok (b:Bool):i32ok (truthI b):=by unfold truthI i32ok;split <;> omega
structure Same (m m':List Int) (lo hi:Int):Prop where
 len:m'.length=m.length
 ok:(∀ x ∈ m,i32ok x)→∀ x ∈ m',i32ok x
 out:∀ i,0≤i→(i < lo ∨ hi≤i)→mget m' i=mget m i
theorem Same.refl (m:List Int) (lo hi:Int):Same m m lo hi:=⟨rfl,fun h=>h,fun _ _ _=>rfl⟩
theorem Same.trans {a b c:List Int} {lo hi:Int} (h:Same a b lo hi) (h':Same b c lo hi):Same a c lo hi :=
 ⟨h'.len.trans h.len,fun q=>h'.ok (h.ok q),fun i h0 q=>(h'.out i h0 q).trans (h.out i h0 q)⟩
theorem Same.mono {a b:List Int} {lo hi lo' hi':Int} (h:Same a b lo hi) (h1:lo'≤lo) (h2:hi≤hi'):Same a b lo' hi' :=
 ⟨h.len,h.ok,fun i h0 q=>h.out i h0 (by omega)⟩
theorem Same.put {m:List Int} {lo hi i v:Int} (h0:0≤i) (h1:lo≤i) (h2:i < hi) (h3:i < m.length) (hv:i32ok v):Same m (mput m i v) lo hi :=
 ⟨mput_len _ _ _,fun q=>mput_ok q hv,fun j hj q=>by rw [mget_put v h0 hj h3,if_neg (by omega)]⟩
structure EInv (k:Mk) (κ:Kn) (W:Wd) (R:RS) (m:List Int):Prop where
 b0:0≤k.b
 len:(m.length:Int)=k.b+49
 ok:∀ x ∈ m,i32ok x
 plain:∀ s,κ s ≠ 0∧κ s ≠ 2→0≤W s∧W s < k.b+33∧mget m (W s)=nameV k.V R s
 list:∀ s,κ s=2→0≤W s∧0 < (cellX k.V s).size∧W s+(cellX k.V s).size≤k.b∧∀ i,0≤i→i < (cellX k.V s).size→mget m (W s+i)=R.vars.getD (cellN k.V s+i).toNat 0
theorem EInv.same {k:Mk} {κ:Kn} {W:Wd} {R:RS} {m m':List Int} {hi:Int} (h:EInv k κ W R m) {lo:Int} (hs:Same m m' lo hi) (hlo:k.b+33≤lo):EInv k κ W R m' :=
 ⟨h.b0,by rw [hs.len];exact h.len,hs.ok h.ok,fun s q=>by
  obtain ⟨h1,h2,h3⟩:=h.plain s q
  exact ⟨h1,h2,by rw [hs.out _ h1 (by omega)];exact h3⟩,fun s q=>by
  obtain ⟨h1,h2,h3,h4⟩:=h.list s q
  exact ⟨h1,h2,h3,fun i hi0 hi1=>by rw [hs.out _ (by omega) (by omega)];exact h4 i hi0 hi1⟩⟩
def dp:EF→Nat | .nil=>0 | .cons _ _ _ k r=>max (1+dp k) (dp r)
/-! ### one instruction, then the rest -/
theorem twoOp_bd {op:Int} (h:5≤op∧op≤17):3≤twoOp op∧twoOp op≤13:=by
 have h13:op=5 ∨ op=6 ∨ op=7 ∨ op=8 ∨ op=9 ∨ op=10 ∨ op=11 ∨ op=12 ∨ op=13 ∨ op=14 ∨ op=15 ∨ op=16 ∨ op=17:=by omega
 rcases h13 with rfl | rfl | rfl | rfl | rfl | rfl | rfl | rfl | rfl | rfl | rfl | rfl | rfl <;> decide
open Go.RowKit Mc
theorem deep_dp:∀ F:EF,F.size≤1099511627776→F.deep=dp F∧dp F≤F.size
 | .nil,_=>⟨rfl,Nat.le_refl _⟩
 | .cons _ _ _ k r,h=>by
  simp only [EF.size] at h
  obtain ⟨h1,h2⟩:=deep_dp k (by omega)
  obtain ⟨h3,h4⟩:=deep_dp r (by omega)
  refine ⟨?_,by simp only [dp,EF.size];omega⟩
  rw [EF.deep,dp,h1,h3]
  have:w64 (1+(dp k:Int))=1+dp k:=by simp only [w64_def];omega
  rw [this]
  omega
theorem chkD_E {κ:Kn}:∀ {F:EF},chkD κ F=none→F.size≤1099511627776→chkE κ F=none∧dp F≤12
 | .nil,_,_=>⟨rfl,by simp [dp]⟩
 | .cons _ _ _ k r,h,hz=>by
  rw [chkD,ored_eq_none,ored_eq_none,must_none,decide_eq_true_eq] at h
  simp only [EF.size] at hz
  obtain ⟨h1,h2⟩:=chkD_E h.2 (by omega)
  obtain ⟨h3,h4⟩:=deep_dp k (by omega)
  have h5:=h.1.1
  rw [h3,show w64 (1+(dp k:Int))=1+dp k by simp only [w64_def];omega] at h5
  refine ⟨?_,by simp only [dp];omega⟩
  rw [chkE,ored_eq_none]
  exact ⟨h.1.2,h1⟩
structure VrR (v:Vr):Prop where
 lo:i32ok v.low
 hi:i32ok v.high
 le:v.low≤v.high
structure Stat (k:Mk):Prop where
 b0:0≤k.b
 s2:2≤k.seats
 s8:k.seats≤8
structure CInv (k:Mk) (R:RS) (m:List Int):Prop where
 len:(m.length:Int)=k.b+49
 ok:∀ x ∈ m,i32ok x
 vlen:(R.vars.length:Int)=k.b
 vars:∀ i,0≤i→i < k.b→mget m i=R.vars.getD i.toNat 0
 seat:mget m (k.b+4)=R.seat
 cell:mget m (k.b+5)=R.cell
 sides:mget m (k.b+6)=R.sides
 rest:mget m (k.b+7)=R.rest
 alen:(R.asks.length:Int)=k.seats
 asks:∀ i,0≤i→i < k.seats→mget m (k.b+8+i)=R.asks.getD i.toNat 0∧0≤R.asks.getD i.toNat 0∧R.asks.getD i.toNat 0≤1073741823
structure NInv (k:Mk) (κ:Kn) (W:Wd) (f:Nat) (B:List (Str × Int)) (m:List Int):Prop where
 kn:∀ s,κ s≤3
 one:∀ s,κ s=1→W s=cellN k.V s∧0≤cellN k.V s∧cellN k.V s < k.b∧bindG B s=none∧VrR (cellX k.V s)
 two:∀ s,κ s=2→W s=cellN k.V s∧0≤cellN k.V s∧0 < (cellX k.V s).size∧cellN k.V s+(cellX k.V s).size≤k.b∧VrR (cellX k.V s)
 fix:∀ s,κ s=3→((k.b≤W s∧W s < k.b+4) ∨ (k.b+17≤W s∧W s < k.b+17+2 * f))∧∃ v,bindG B s=some v∧mget m (W s)=v
 no:∀ s,κ s=0→bindG B s=none
theorem EInv.of {k:Mk} {κ:Kn} {W:Wd} {f:Nat} {R:RS} {m:List Int} (hk:Stat k) (hf:f≤8) (hC:CInv k R m) (hN:NInv k κ W f R.binds m):EInv k κ W R m :=
 ⟨hk.b0,hC.len,hC.ok,fun s h=>by
  have h3:=hN.kn s
  have hb:=hk.b0
  rcases (by omega:κ s=1 ∨ κ s=3) with q | q
  ·obtain ⟨a1,a2,a3,a4,_⟩:=hN.one s q
   rw [a1]
   refine ⟨a2,by omega,?_⟩
   unfold nameV
   rw [a4]
   exact hC.vars _ a2 a3
  ·obtain ⟨a1,v,a2,a3⟩:=hN.fix s q
   refine ⟨by omega,by omega,?_⟩
   unfold nameV
   rw [a2,a3],fun s q=>by
  obtain ⟨a1,a2,a3,a4,_⟩:=hN.two s q
  rw [a1]
  exact ⟨a2,a3,a4,fun i h0 h1=>hC.vars _ (by omega) (by omega)⟩⟩
structure Keep (k:Mk) (f:Nat) (m m':List Int):Prop where
 loops:∀ i,k.b+17≤i→i < k.b+17+2 * f→mget m' i=mget m i
 one:mget m (k.b+16)=1→mget m' (k.b+16)=1
 args:∀ i,k.b≤i→i < k.b+4→mget m' i=mget m i
theorem Keep.refl (k:Mk) (f:Nat) (m:List Int):Keep k f m m:=⟨fun _ _ _=>rfl,fun h=>h,fun _ _ _=>rfl⟩
theorem Keep.trans {k:Mk} {f:Nat} {a b c:List Int} (h:Keep k f a b) (h':Keep k f b c):Keep k f a c :=
 ⟨fun i h0 h1=>(h'.loops i h0 h1).trans (h.loops i h0 h1),fun q=>h'.one (h.one q),fun i h0 h1=>(h'.args i h0 h1).trans (h.args i h0 h1)⟩
theorem Keep.of_same {k:Mk} {f:Nat} {m m':List Int} {lo hi:Int} (hk:Stat k) (hf:f≤8) (h:Same m m' lo hi) (hlo:k.b+33≤lo):Keep k f m m':=by
 have hb:=hk.b0
 exact ⟨fun i h0 h1=>h.out i (by omega) (by omega),fun q=>by rw [h.out _ (by omega) (by omega)];exact q,fun i h0 h1=>h.out i (by omega) (by omega)⟩
theorem NInv.keep {k:Mk} {κ:Kn} {W:Wd} {f:Nat} {B:List (Str × Int)} {m m':List Int} (h:NInv k κ W f B m) (hk:Keep k f m m'):NInv k κ W f B m' :=
 ⟨h.kn,h.one,h.two,fun s q=>by
  obtain ⟨a1,v,a2,a3⟩:=h.fix s q
  refine ⟨a1,v,a2,?_⟩
  rcases a1 with a1 | a1
  ·rw [hk.args _ a1.1 a1.2];exact a3
  ·rw [hk.loops _ a1.1 a1.2];exact a3,h.no⟩
theorem CInv.same {k:Mk} {R:RS} {m m':List Int} {lo hi:Int} (hk:Stat k) (h:CInv k R m) (hs:Same m m' lo hi) (hlo:k.b+16≤lo):CInv k R m':=by
 have hb:=hk.b0
 have h8:=hk.s8
 have g:∀ i,0≤i→i < k.b+16→mget m' i=mget m i:=fun i h0 h1=>hs.out i h0 (by omega)
 exact ⟨by rw [hs.len];exact h.len,hs.ok h.ok,h.vlen,fun i h0 h1=>by rw [g i h0 (by omega)];exact h.vars i h0 h1,by rw [g _ (by omega) (by omega)];exact h.seat,by rw [g _ (by omega) (by omega)];exact h.cell,
  by rw [g _ (by omega) (by omega)];exact h.sides,by rw [g _ (by omega) (by omega)];exact h.rest,h.alen,fun i h0 h1=>by rw [g _ (by omega) (by omega)];exact h.asks i h0 h1⟩
theorem Keep.put {k:Mk} {f:Nat} {m:List Int} (hk:Stat k) (hl:(m.length:Int)=k.b+49) {j v:Int} (h0:0≤j) (h1:j < k.b ∨ k.b+4≤j∧j < k.b+16 ∨ k.b+33≤j) (h2:j < k.b+49) (hf:f≤8):Keep k f m (mput m j v):=by
 have hb:=hk.b0
 have g:∀ i,0≤i→¬ i=j→mget (mput m j v) i=mget m i:=fun i hi hn=>by rw [mget_put v h0 hi (by omega),if_neg hn]
 exact ⟨fun i _ _=>g i (by omega) (by omega),fun q=>by rw [g _ (by omega) (by omega)];exact q,fun i _ _=>g i (by omega) (by omega)⟩
open Go.RowKit Mc
structure Pre (c:List Ins) (m:List Int) (k:Mk) (κ:Kn) (W:Wd) (f:Nat) (R:RS):Prop where
 st:Stat k
 f8:f≤8
 ok:okC c m.length
 C:CInv k R m
 N:NInv k κ W f R.binds m
 ov:R.over=false
theorem Pre.put {c:List Ins} {m:List Int} {k:Mk} {κ:Kn} {W:Wd} {f:Nat} {R:RS} (h:Pre c m k κ W f R) {j v:Int} (h0:0≤j) (h1:j < 16) (hv:i32ok v):Pre c (mput m (fr k.b j) v) k κ W f R∧Keep k f m (mput m (fr k.b j) v)∧mget (mput m (fr k.b j) v) (fr k.b j)=v∧∀ i,0≤i→¬ i=fr k.b j→mget (mput m (fr k.b j) v) i=mget m i:=by
 have hb:=h.st.b0
 have hl:=h.C.len
 have s:Same m (mput m (fr k.b j) v) (fr k.b 0) (fr k.b 16):=Same.put (by unfold fr;omega) (by unfold fr;omega) (by unfold fr;omega) (by unfold fr;omega) hv
 have hK:=Keep.of_same h.st h.f8 s (by unfold fr;omega)
 refine ⟨⟨h.st,h.f8,by rw [s.len];exact h.ok,h.C.same h.st s (by unfold fr;omega),h.N.keep hK,h.ov⟩,hK,?_,fun i hi hn=>?_⟩
 ·rw [mget_put v (by unfold fr;omega) (by unfold fr;omega) (by unfold fr;omega),if_pos rfl]
 ·rw [mget_put v (by unfold fr;omega) hi (by unfold fr;omega),if_neg hn]
section
variable {c:List Ins} {m:List Int} {k:Mk} {κ:Kn} {W:Wd} {f:Nat} {R:RS} {pc:Int}
end
open Go.RowKit Mc
section
variable {c:List Ins} {m:List Int} {k:Mk} {κ:Kn} {W:Wd} {f:Nat} {R:RS} {pc:Int}
end
open Go.RowKit Mc
section
variable {c:List Ins} {m m1:List Int} {k:Mk} {κ:Kn} {W:Wd} {f:Nat} {R R':RS} {pc pc1 pe pe':Int} {n n1:Nat}
end
section
variable {c:List Ins} {m:List Int} {k:Mk} {κ:Kn} {W:Wd} {f:Nat} {R:RS} {pc:Int} {part:Nat}
end
open Go.RowKit Mc
section
variable {c:List Ins} {k:Mk} {κ:Kn} {W:Wd} {f:Nat} {pc:Int} {part:Nat}
theorem CInv.binds {m:List Int} {R:RS} (h:CInv k R m) (B:List (Str × Int)):CInv k { R with binds:=B } m :=
 ⟨h.len,h.ok,h.vlen,h.vars,h.seat,h.cell,h.sides,h.rest,h.alen,h.asks⟩
end
end Go.Proofs.YtbfbabbcdochjaaGreatDoor.So
namespace Go.Proofs.YtbfbabbcdochjaaGreatDoor
open Go.RowKit
def IMap (w:World) (g:Nat) (f:Int→Option Value):Prop :=
 ∃ es clock,w.heap[g]?=some (.map es clock)∧(∀ x ∈ es.toList,MapKept.IsKey (.int .i64) x.key)∧(es.toList.map (·.key)).Nodup∧∀ s v,f s=some v ↔ ∃ x ∈ es.toList,x.key=.int .i64 s∧x.val=v
section
variable {P:Program} {w w':World} {g:Nat} {f:Int→Option Value} {mt kt et:TypeId}
theorem IMap.lt (h:IMap w g f):g < w.heap.size:=by
 obtain ⟨_,_,hb,_⟩:=h
 exact (Array.getElem?_eq_some_iff.1 hb).1
theorem IMap.kept {S:Nat→Prop} (h:IMap w g f) (hk:Kept S w w') (hs:¬ S g):IMap w' g f:=by
 have hl:=h.lt
 obtain ⟨es,clock,hb,r⟩:=h
 exact ⟨es,clock,(hk.block g hl hs).trans hb,r⟩
theorem IMap.ext (h:IMap w g f) (hk:Ext w w'):IMap w' g f:=h.kept hk (fun f=>f)
theorem IMap.cong {f':Int→Option Value} (h:IMap w g f) (e:∀ s,f s=f' s):IMap w g f':=by
 obtain ⟨es,clock,hb,hk,hn,hm⟩:=h
 exact ⟨es,clock,hb,hk,hn,fun s v=>by rw [← e];exact hm s v⟩
theorem IMap.made (w:World):IMap (w.alloc (.map #[] 0)) w.heap.size (fun _=>none) :=
 ⟨#[],0,(MapKept.heap_alloc w _).1,by simp,by simp,by simp⟩
theorem key_int (s:Int):MapKept.IsKey (.int .i64) (.int .i64 s):=by simp [MapKept.IsKey]
theorem IMap.find (h:IMap w g f) (s:Int):∃ es clock,w.heap[g]?=some (.map es clock)∧(∀ x ∈ es.toList,MapKept.IsKey (.int .i64) x.key)∧(es.toList.map (·.key)).Nodup∧(∀ s v,f s=some v ↔ ∃ x ∈ es.toList,x.key=.int .i64 s∧x.val=v) ∧
 ((Instr.findNow (.int .i64) (.int .i64 s) es.toList 0=some none∧f s=none∧∀ x ∈ es.toList,x.key ≠ .int .i64 s) ∨ ∃ j e,Instr.findNow (.int .i64) (.int .i64 s) es.toList 0=some (some (j,e.val))∧es.toList[j]?=some e∧e.key=.int .i64 s∧f s=some e.val):=by
 obtain ⟨es,clock,hb,hk,hn,hm⟩:=h
 refine ⟨es,clock,hb,hk,hn,hm,?_⟩
 rcases MapKept.findNow_spec (key_int s) es.toList 0 hk with ⟨h1,h2⟩ | ⟨j,e,h1,h2,h3⟩
 ·refine .inl ⟨h1,?_,h2⟩
  cases hf:f s with
  | none=>rfl
  | some v =>
   obtain ⟨x,hx,he,_⟩:=(hm s v).1 hf
   exact absurd he (h2 x hx)
 ·rw [Nat.zero_add] at h1
  exact .inr ⟨j,e,h1,h2,h3,(hm s e.val).2 ⟨e,List.mem_of_getElem? h2,h3,rfl⟩⟩
theorem IMap.look (h:IMap w g f) (hu:P.underlying mt=some (.map kt et)) (hk:P.underlying kt=some (.int .i64)) {z:Value} (hz:∀ w:World,(zeroValue et).run P w=.ok z w) (s:Int) :
 (Instr.lookup mt (.map (some g)) (.int .i64 s) false).run P w=.ok ((f s).getD z) w:=by
 exact zz44
theorem IMap.look_ok (h:IMap w g f) (hu:P.underlying mt=some (.map kt et)) (hk:P.underlying kt=some (.int .i64)) {z:Value} (hz:∀ w:World,(zeroValue et).run P w=.ok z w) (s:Int) :
 (Instr.lookup mt (.map (some g)) (.int .i64 s) true).run P w=.ok (.tuple #[(f s).getD z,.bool (f s).isSome]) w:=by
 exact zz44
theorem IMap.put (h:IMap w g f) (hu:P.underlying mt=some (.map kt et)) (hk:P.underlying kt=some (.int .i64)) (s:Int) (v:Value) :
 ∃ w',(Instr.mapUpdate mt (.map (some g)) (.int .i64 s) v).run P w=.ok () w'∧IMap w' g (fun t=>if t=s then some v else f t)∧Kept (·=g) w w':=by
 obtain ⟨es,clock,hb,hks,hn,hm,⟨h1,hf,hnew⟩ | ⟨j,e,h1,h2,h3,h4⟩⟩:=h.find s
 ·refine ⟨{ w with heap:=w.heap.setIfInBounds g (.map (es.push ⟨.int .i64 s,v,clock⟩) (clock+1)) },?_,⟨_,_,(MapKept.heap_set hb).1,?_,?_,?_⟩,keep_set⟩
  ·simp [Instr.mapUpdate,run_underlying hu,MapKept.run_getObj_map hb,MapKept.run_checkKey hk (key_int s),MapKept.run_findKey hk h1,MapKept.run_setObj_map _ hb,Result.andThen]
  ·intro x hx
   simp only [Array.toList_push,List.mem_append,List.mem_singleton] at hx
   rcases hx with hx | rfl
   ·exact hks x hx
   ·exact key_int s
  ·rw [Array.toList_push,List.map_append]
   refine List.nodup_append.2 ⟨hn,by simp,fun a ha b hb' e=>?_⟩
   obtain ⟨x,hx,rfl⟩:=List.mem_map.1 ha
   simp at hb'
   subst hb'
   exact hnew x hx e
  ·intro t u
   show (if t=s then some v else f t)=some u ↔ _
   simp only [Array.toList_push,List.mem_append,List.mem_singleton]
   by_cases e:t=s
   ·subst e
    rw [if_pos rfl]
    constructor
    ·intro q
     cases q
     exact ⟨_,.inr rfl,rfl,rfl⟩
    ·rintro ⟨x,hx | rfl,hxk,hxv⟩
     ·exact absurd hxk (hnew x hx)
     ·rw [← hxv]
   ·rw [if_neg e,hm]
    constructor
    ·rintro ⟨x,hx,hxk,hxv⟩
     exact ⟨x,.inl hx,hxk,hxv⟩
    ·rintro ⟨x,hx | rfl,hxk,hxv⟩
     ·exact ⟨x,hx,hxk,hxv⟩
     ·injection hxk with _ hxk
      exact absurd hxk.symm e
 ·have hj:es[j]?=some e:=by simpa using h2
  have hkey:∀ e',es[j]?=some e'→({ e' with key:=.int .i64 s,val:=v }:MapEntry).key=e'.key:=fun e' he'=>by rw [hj] at he';cases he';exact h3.symm
  have hjl:j < es.size:=(Array.getElem?_eq_some_iff.1 hj).1
  refine ⟨{ w with heap:=w.heap.setIfInBounds g (.map (es.modify j fun e=>{ e with key:=.int .i64 s,val:=v }) clock) },?_,⟨_,_,(MapKept.heap_set hb).1,MapKept.isKey_modify hks _ _ hkey,?_,?_⟩,keep_set⟩
  ·simp [Instr.mapUpdate,run_underlying hu,MapKept.run_getObj_map hb,MapKept.run_checkKey hk (key_int s),MapKept.run_findKey hk h1,hj,h3,MapKept.run_keyThatStays (key_int s),MapKept.run_setObj_map _ hb,Result.andThen]
  ·rw [MapKept.modify_keys _ _ hkey]
   exact hn
  ·have hat:∀ i,(es.modify j fun e=>{ e with key:=.int .i64 s,val:=v }).toList[i]?=if i=j then some ⟨.int .i64 s,v,e.born⟩ else es.toList[i]?:=fun i=>by
    rw [Array.getElem?_toList,Array.getElem?_modify]
    by_cases ei:i=j
    ·subst ei;simp [hj]
    ·rw [if_neg (fun q=>ei q.symm),if_neg ei,Array.getElem?_toList]
   have huni:∀ i x,es.toList[i]?=some x→x.key=.int .i64 s→i=j:=fun i x hx hxk=>by
    exact zz36
   intro t u
   show (if t=s then some v else f t)=some u ↔ _
   by_cases et':t=s
   ·subst et'
    rw [if_pos rfl]
    constructor
    ·intro q
     cases q
     exact ⟨⟨.int .i64 t,v,e.born⟩,List.mem_of_getElem? (i:=j) (by rw [hat,if_pos rfl]),rfl,rfl⟩
    ·rintro ⟨x,hx,hxk,hxv⟩
     obtain ⟨i,hi⟩:=List.getElem?_of_mem hx
     rw [hat] at hi
     split at hi
     ·cases hi
      rw [← hxv]
     ·rename_i hne
      exact absurd (huni i x hi hxk) hne
   ·rw [if_neg et',hm]
    constructor
    ·rintro ⟨x,hx,hxk,hxv⟩
     obtain ⟨i,hi⟩:=List.getElem?_of_mem hx
     have hne:¬ i=j:=fun q=>by
      subst q
      rw [h2] at hi
      cases hi
      rw [h3] at hxk
      injection hxk with _ hxk
      exact et' hxk.symm
     exact ⟨x,List.mem_of_getElem? (i:=i) (by rw [hat,if_neg hne];exact hi),hxk,hxv⟩
    ·rintro ⟨x,hx,hxk,hxv⟩
     obtain ⟨i,hi⟩:=List.getElem?_of_mem hx
     rw [hat] at hi
     split at hi
     ·cases hi
      injection hxk with _ hxk
      exact absurd hxk.symm et'
     ·exact ⟨x,List.mem_of_getElem? hi,hxk,hxv⟩
end
end Go.Proofs.YtbfbabbcdochjaaGreatDoor
