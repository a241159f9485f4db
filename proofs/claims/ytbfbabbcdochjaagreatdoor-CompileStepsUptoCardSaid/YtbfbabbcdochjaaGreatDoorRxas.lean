/- Several texts joined: Kk, Kl, Kx, Km, Cp. -/
import Derived.Test.YtbfbabbcdochjaaGreatDoorRxpk
import Derived.Test.YtbfbabbcdochjaaGreatDoorRxar
set_option maxHeartbeats 4000000
namespace Go.Proofs.YtbfbabbcdochjaaGreatDoor.Mc
open Go.RowKit
theorem infoM32:(Tryz.prog.info? 21).map (fun i=>(i.zero,i.size,i.bytes))=some (some (.int .i32 0),1,4):=by kernel_rfl
theorem mems_flatL (l:List Int):flatL (mems l)=true:=by
 induction l with
 | nil=>rfl
 | cons d l ih=>show flatL (.int .i32 d :: mems l)=true;simpa [flatL,Value.oneCell'] using ih
theorem appM (w:World) (base:Nat) (v:Value) (n:Nat) (xs:List Int) (hown:w.ownsRow base 21 1 v n (mems xs)) (b off m c:Nat) (l:List Int) (hm:m=l.length) (hr:Row w b off (mems l)) (hn:n+m≤100000) (hbase:base≤w.heap.size) :
 ∃ v' w',(Builtin.append_ #[27,27] 27 #[v,.slice (some ⟨b,off,none⟩) m c]).run Tryz.prog w=.ok v' w'∧w'.ownsRow base 21 1 v' (n+m) (mems (xs ++ l))∧Kept (fun i=>v.ownBlock=some i) w w':=by
 obtain ⟨i,hi,hz,h1,h2⟩:=info_parts infoM32
 have:=app_some (P:=Tryz.prog) Tryz.underlying27 hi hz h1 h2 zb87 zb84 w base v n (mems xs) hown b off m c (mems l) (by rw [mems_len,hm,Nat.mul_one]) hr (mems_flatL l) (by unfold maxLen;omega) zb85 hbase
 rw [show mems xs ++ mems l=mems (xs ++ l) by simp [mems]] at this
 exact this
def OwnsM (w w':World) (v:Value) (n:Nat) (m:List Int):Prop:=∃ g c,v=.slice (some ⟨g,0,none⟩) n c∧MemAt w' w.heap.size g n c m∧Ext w w'
theorem ownM_of {w w':World} {v:Value} {n:Nat} {m:List Int} (h:w'.ownsRow w.heap.size 21 1 v n (mems m)) (hn:0 < n) (hx:Ext w w'):OwnsM w w' v n m:=by
 rcases h.2 with ⟨_,h0⟩ | ⟨g,c,cur,hv,r⟩
 ·omega
 ·subst hv
  exact ⟨g,c,rfl,h,hx⟩
set_option maxRecDepth 100000 in
theorem mclone_any (b off cap:Nat) (l:List Int) (n:Nat) (hn:n=l.length) (h1:1≤n) (h2:n≤4096) (w:World) (hr:Row w b off (mems l)) :
 Calls Tryz.prog 66 #[.slice (some ⟨b,off,none⟩) n cap] w fun e w'=>∃ v,e=.returned v∧OwnsM w w' v n l:=by
 obtain ⟨v2,w2,hr2,ho2,hk2⟩:=appM (w.alloc (.cells #[] 21)) _ _ 0 [] (own_new w 21 1) b off n cap l hn (hr.ext ((kR _ w).alloc _)) zb85 zb86
 have HN:=J hn
 clear hn
 have heq:=fun w=>Lib.run_eql_slice_nil (P:=Tryz.prog) w 27 21 (some ⟨b,off,none⟩) n cap 0 0 Tryz.underlying27
 simp only [Option.isNone_some] at heq
 go_enter Tryz.func66,Tryz.ntmps66
 go_upto_region 3 with (fail)
 go_step
 iterate 2 refine qls ?_
 refine wpList_app rfl (.tmp 5) (.tmp 6) 27 rfl rfl rfl rfl hr2 ?_
 clear hr2
 go_wp2_with fail
 go_ret
 rw [Nat.zero_add,List.nil_append] at ho2
 exact ⟨_,rfl,ownM_of ho2 h1 (((kR _ w).alloc _).trans' hk2 (fun i hi e=>by simp [Value.ownBlock] at e;omega))⟩
def OwnsS (w w':World) (v:Value) (n:Nat) (pc halt:Int) (m:List Int):Prop:=∃ g c,v=.agg (stCells pc (some ⟨g,0,none⟩) n c halt)∧MemAt w' w.heap.size g n c m∧Ext w w'
set_option maxRecDepth 100000 in
theorem sclone_any (pc halt:Int) (b off cap:Nat) (l:List Int) (n:Nat) (hn:n=l.length) (h1:1≤n) (h2:n≤4096) (w:World) (hr:Row w b off (mems l)) :
 Calls Tryz.prog 60 #[.agg (stCells pc (some ⟨b,off,none⟩) n cap halt)] w fun e w'=>∃ v,e=.returned v∧OwnsS w w' v n pc halt l:=by
 have HN:=J hn
 clear hn
 have hx0:Ext w _:=((kR _ w).alloc (.cells (stCells pc (some ⟨b,off,none⟩) n cap halt) 49)).alloc (.cells (stCells 0 none 0 0 0) 49)
 have hA0:Blk _ w.heap.size 49 (stCells pc (some ⟨b,off,none⟩) n cap halt):=Blk.alloc (bN w _ _) (.cells (stCells 0 none 0 0 0) 49)
 have hR0:Blk _ (w.heap.size+1) 49 (stCells 0 none 0 0 0):=Blk.new' (w.alloc (.cells (stCells pc (some ⟨b,off,none⟩) n cap halt) 49)) _ _ _ zb86
 have hrow:=hr.ext hx0
 have hs0:=hx0.size
 go_enter Tryz.func60,Tryz.ntmps60
 go_wp2_with fail
 refine (mclone_any b off cap l n HN.out h1 h2 _ hrow).mono ?_
 rintro e w1 ⟨v1,rfl,g,c1,rfl,hM1,hx1⟩
 have hA1:=bX hA0 hx1
 have hR1:=bX hR0 hx1
 have hc1:=bC hA1
 have hf1:=Blk.frozen hA1
 have hg1:=hM1.inv.2
 obtain ⟨_,hgb,_⟩:=hg1
 have lA:=hA0.lt
 have lR:=hR0.lt
 have hA2:Blk (w1.setCell ⟨w.heap.size,1,none⟩ (.slice (some ⟨g,0,none⟩) n c1)) w.heap.size 49 (stCells pc (some ⟨g,0,none⟩) n c1 halt):=Blk.set_ hA1 1 (.slice (some ⟨g,0,none⟩) n c1)
 have hR2:=Blk.far hR1 (p:=⟨w.heap.size,1,none⟩) (show w.heap.size+1 ≠ w.heap.size by omega) (.slice (some ⟨g,0,none⟩) n c1)
 have hM2:=hM1.far (p:=⟨w.heap.size,1,none⟩) (show ¬ g=w.heap.size by omega) (.slice (some ⟨g,0,none⟩) n c1)
 have y2:Ext w (w1.setCell ⟨w.heap.size,1,none⟩ (.slice (some ⟨g,0,none⟩) n c1)):=Kept.setCell (hx0.trans hx1) ⟨w.heap.size,1,none⟩ _ (fun h=>by have:w.heap.size < w.heap.size:=h;omega)
 go_upto_region 2 with (fail)
 clear hA0 hR0 hA1 hR1 hc1 hf1 hM1
 generalize (w1.setCell ⟨w.heap.size,1,none⟩ (.slice (some ⟨g,0,none⟩) n c1))=W2 at hA2 hR2 hM2 y2 ⊢
 have i1:=bH hA2
 have i2:=bG hA2
 have i3:=bH hR2
 have i4:=Blk.melts hR2
 go_wp2_with fail
 refine ret_cell Tryz.results60 rfl rfl aggMst (by exact sizeMst) (Blk.put_ hR2 _ _) ⟨_,rfl,g,c1,rfl,?_,Kept.putAt y2 _ _ _ (fun h=>by omega)⟩
 exact (own_mono (hM2.kept (Kept.putAt (S:=(·=w.heap.size+1)) (kR _ _) _ _ _ (fun _=>rfl)) zb85) zb85)
open Go.RowKit
theorem MemAt.ge {w:World} {base g n kc:Nat} {m:List Int} (h:MemAt w base g n kc m):base≤g:=by
 obtain ⟨_,_,hb,_⟩:=h.inv
 exact hb
def runI (c:List Ins) (pc halt:Int) (m:List Int):Int × Int × List Int:=if halt=0 then stepI c pc m else (pc,halt,m)
theorem ret_cii {P:Program} {fn:Func} {R:Ending→World→Prop} {a:Act} {w:World} {p j k:Tmp} {ty t:TypeId} {g:Nat} {cs:Array Value}
 (hres:fn.results=#[.cell p ty,.tmp j,.tmp k]) (hd:a.defers=[]) (hp:a.tmps.getD p undef=.pointer (some ⟨g,0,none⟩)) (ha:aggT P ty=true) (hs:sizeT P ty=some cs.size) (hb:Blk w g t cs)
 (hR:R (.returned (.tuple #[.agg cs,a.tmps.getD j undef,a.tmps.getD k undef])) w):bodyPost P fn R .ret a w:=by
 exact zz86
structure RunPre (w:World) (A:Option Addr) (b off cn:Nat) (c:List Ins) (b' off' n:Nat) (pc halt:Int) (m:List Int):Prop where
 ops:OpsAt w
 cA:0 < cn→A=some ⟨b,off,none⟩
 row:0 < cn→Row w b off (inss c)
 cn_eq:cn=c.length
 cn2:cn≤2048
 n_eq:n=m.length
 right:rightS pc halt n=true
 mok:∀ x ∈ m,i32ok x
 mrow:Row w b' off' (mems m)
theorem RunPre.ext {w w':World} {A:Option Addr} {b off cn:Nat} {c:List Ins} {b' off' n:Nat} {pc halt:Int} {m:List Int} (h:RunPre w A b off cn c b' off' n pc halt m) (hx:Ext w w'):RunPre w' A b off cn c b' off' n pc halt m :=
 ⟨h.ops.ext hx,h.cA,fun h0=>(h.row h0).ext hx,h.cn_eq,h.cn2,h.n_eq,h.right,h.mok,h.mrow.ext hx⟩
set_option maxRecDepth 100000 in
theorem right_any (pc halt:Int) (A:Option Addr) (n cap:Nat) (w:World) :
 Calls Tryz.prog 61 #[.agg (stCells pc A n cap halt)] w fun e w'=>e=.returned (.bool (rightS pc halt n))∧Ext w w':=by
 have hx0:Ext w _:=(kR _ w).alloc (.cells (stCells pc A n cap halt) 49)
 go_enter Tryz.func61,Tryz.ntmps61
 go_wp2_with fail
 all_goals go_ret
 all_goals refine ⟨?_,hx0⟩
 all_goals simp [rightS]
 all_goals (intros;omega)
open Go.RowKit
theorem getX_ok {m:List Int} (h:∀ z ∈ m,i32ok z) (k:Nat):i32ok (m.getD k 0):=by
 by_cases hk:k < m.length
 ·simp [hk];exact h _ (List.getElem_mem hk)
 ·simp [hk];unfold i32ok;omega
theorem op_nat {i:Ins} (h:isOp i.op=true):∃ k:Nat,k < 22∧i.op=k:=by
 simp [isOp] at h
 exact ⟨i.op.toNat,by omega,by omega⟩
theorem putE_ok {m:List Int} {x v:Int} (hm:∀ z ∈ m,i32ok z) (hv:i32ok v):∀ z ∈ mput m x v,i32ok z:=fun z hz=>by
 rcases List.mem_or_eq_of_mem_set hz with h | h
 ·exact hm z h
 ·rw [h];exact hv
theorem getE_ok {m:List Int} {x:Int} (hm:∀ z ∈ m,i32ok z):i32ok (mget m x):=getX_ok hm _
theorem truth_ok (b:Bool):i32ok (truthI b):=by cases b <;> simp [truthI,i32ok]
theorem wrap32_ok (x:Int):i32ok (IntKind.i32.wrap x):=by
 unfold i32ok
 simp only [IntKind.wrap,IntKind.signed,IntKind.bits]
 simp
 omega
theorem two_ok (k:Nat) {b c:Int} (hb:i32ok b) (_hc:i32ok c):i32ok (twoI k b c):=by
 have h0:i32ok 0:=by unfold i32ok;omega
 unfold twoI
 split
 ·exact wrap32_ok _
 ·exact wrap32_ok _
 ·exact wrap32_ok _
 ·split
  ·exact h0
  ·exact wrap32_ok _
 ·split
  ·exact h0
  ·unfold i32ok at hb ⊢
   rename_i hc0
   have h2:(b.tmod c).natAbs≤b.natAbs:=by rw [Int.natAbs_tmod];exact Nat.mod_le _ _
   rcases Int.lt_or_le b 0 with hn | hn
   ·have:=Int.tmod_nonneg (a:=-b) c zb85;rw [Int.neg_tmod] at this;omega
   ·have:=Int.tmod_nonneg c hn;omega
 all_goals exact truth_ok _
structure Okay (pc halt:Int) (m:List Int):Prop where
 right:rightS pc halt m.length=true
 mok:∀ z ∈ m,i32ok z
theorem Okay.mk' {pc halt:Int} {m:List Int} (k:Nat) (hk:k=m.length) (h1:1≤k) (h2:k≤256) (p0:0≤pc) (p1:pc≤2048) (a0:0≤halt) (a1:halt≤2) (hm:∀ z ∈ m,i32ok z):Okay pc halt m :=
 ⟨by subst hk;simp [rightS];omega,hm⟩
theorem put_len (m:List Int) (x v:Int):(mput m x v).length=m.length:=by simp [mput]
theorem exec_okay {i:Ins} {pc:Int} {n:Nat} {m:List Int} (hr:rightI i n m.length=true) (hn:n≤2048) (h:Okay pc 0 m) (hp:pc < n):Okay (execI i pc m).1 (execI i pc m).2.1 (execI i pc m).2.2∧(execI i pc m).2.2.length=m.length:=by
 obtain ⟨h1,h2,h3,h4,_,_⟩:=rightS_inv h.right
 obtain ⟨o0,o1,ha,hb,hc,he⟩:=rightI_parts hr
 obtain ⟨k,hk,hop⟩:=op_nat (i:=i) (by simp [isOp];omega)
 have hnn:i.op.toNat=k:=by omega
 rw [hnn] at ha hb hc
 have put:∀ (x v:Int),i32ok v→Okay (pc+1) 0 (mput m x v)∧(mput m x v).length=m.length:=fun x v hv =>
  ⟨Okay.mk' m.length (put_len m x v).symm h1 h2 zb85 zb85 zb85 zb85 (putE_ok h.mok hv),put_len m x v⟩
 have go:∀ q:Int,0≤q→q≤2048→Okay q 0 m∧m.length=m.length:=fun q q0 q1=>⟨Okay.mk' m.length rfl h1 h2 q0 q1 zb85 zb85 h.mok,rfl⟩
 obtain ⟨r,hx⟩:∃ r,execI i pc m=r:=⟨_,rfl⟩
 rw [hx]
 delta execI at hx
 by_cases e0:i.op=0
 ·rw [if_pos e0] at hx
  subst hx
  simp [rightE,e0] at he
  exact ⟨Okay.mk' m.length rfl h1 h2 h3 h4 (by simp only;omega) (by simp only;omega) h.mok,rfl⟩
 rw [if_neg e0] at hx
 by_cases e1:i.op=1
 ·rw [if_pos e1] at hx
  subst hx
  have ek:k=1:=by omega
  subst ek
  exact put _ _ (okP_n (k:=1) rfl hb)
 rw [if_neg e1] at hx
 by_cases e2:i.op=2
 ·rw [if_pos e2] at hx
  subst hx
  exact put _ _ (getE_ok h.mok)
 rw [if_neg e2] at hx
 by_cases e14:i.op=14
 ·rw [if_pos e14] at hx
  subst hx
  exact put _ _ (truth_ok _)
 rw [if_neg e14] at hx
 by_cases e15:i.op=15
 ·rw [if_pos e15] at hx
  subst hx
  exact put _ _ (getE_ok h.mok)
 rw [if_neg e15] at hx
 by_cases e16:i.op=16
 ·rw [if_pos e16] at hx
  subst hx
  exact put _ _ (getE_ok h.mok)
 rw [if_neg e16] at hx
 by_cases e17:i.op=17
 ·rw [if_pos e17] at hx
  subst hx
  have ek:k=17:=by omega
  subst ek
  have q0:=okP_n (k:=1) rfl hb
  have q1:=okP_n (k:=2) rfl hc
  have q2:=getE_ok (x:=i.a) h.mok
  refine put _ _ ?_
  unfold i32ok at q2 ⊢
  omega
 rw [if_neg e17] at hx
 by_cases e18:i.op=18
 ·rw [if_pos e18] at hx
  subst hx
  exact put _ _ (truth_ok _)
 rw [if_neg e18] at hx
 by_cases e19:i.op=19
 ·rw [if_pos e19] at hx
  subst hx
  have ek:k=19:=by omega
  subst ek
  have q0:=okP_p (k:=0) rfl ha
  exact go _ zb85 zb85
 rw [if_neg e19] at hx
 by_cases e20:i.op=20
 ·rw [if_pos e20] at hx
  subst hx
  have ek:k=20:=by omega
  subst ek
  have q0:=okP_p (k:=0) rfl ha
  by_cases ez:mget m i.b=0
  ·rw [if_pos ez];exact go _ zb85 zb85
  ·rw [if_neg ez];exact go _ zb85 zb85
 rw [if_neg e20] at hx
 by_cases e21:i.op=21
 ·rw [if_pos e21] at hx
  subst hx
  have ek:k=21:=by omega
  subst ek
  have q0:=okP_p (k:=0) rfl ha
  by_cases ez:mget m i.b=0
  ·rw [if_pos ez];exact go _ zb85 zb85
  ·rw [if_neg ez];exact go _ zb85 zb85
 rw [if_neg e21] at hx
 subst hx
 exact put _ _ (two_ok _ (getE_ok h.mok) (getE_ok h.mok))
theorem step_okay {c:List Ins} {pc:Int} {m:List Int} (hc:c.length≤2048) (h:Okay pc 0 m):Okay (stepI c pc m).1 (stepI c pc m).2.1 (stepI c pc m).2.2∧(stepI c pc m).2.2.length=m.length:=by
 obtain ⟨h1,h2,h3,h4,_,_⟩:=rightS_inv h.right
 have no:Okay pc 2 m∧m.length=m.length:=⟨Okay.mk' m.length rfl h1 h2 h3 h4 zb85 zb85 h.mok,rfl⟩
 unfold stepI
 cases hn:nextI c pc m.length with
 | none=>exact no
 | some i =>
  simp only
  split
  ·exact no
  ·refine exec_okay (nextI_right hn) hc h ?_
   unfold nextI at hn
   split at hn
   ·rename_i hg
    have:=(List.getElem?_eq_some_iff.1 hg).1
    omega
   ·cases hn
theorem run_okay {c:List Ins} {pc halt:Int} {m:List Int} (hc:c.length≤2048) (h:Okay pc halt m):Okay (runI c pc halt m).1 (runI c pc halt m).2.1 (runI c pc halt m).2.2∧(runI c pc halt m).2.2.length=m.length:=by
 unfold runI
 by_cases h0:halt=0
 ·rw [if_pos h0];subst h0;exact step_okay hc h
 ·rw [if_neg h0];exact ⟨h,rfl⟩
open Go.RowKit
def itI (c:List Ins):Nat→Int × Int × List Int→Int × Int × List Int
 | 0,s=>s
 | n+1,s=>itI c n (if s.2.1=0 then stepI c s.1 s.2.2 else s)
theorem itI_add (c:List Ins):∀ (a b:Nat) (s:Int × Int × List Int),itI c (a+b) s=itI c b (itI c a s)
 | 0,b,s=>by rw [Nat.zero_add];rfl
 | a+1,b,s=>by rw [show a+1+b=(a+b)+1 by omega];exact itI_add c a b _
theorem itI_halt (c:List Ins) (s:Int × Int × List Int) (h:¬ s.2.1=0):∀ n,itI c n s=s
 | 0=>rfl
 | n+1=>by rw [itI,if_neg h];exact itI_halt c s h n
theorem itI_succ (c:List Ins) (n:Nat) (s:Int × Int × List Int):itI c (n+1) s=if (itI c n s).2.1=0 then stepI c (itI c n s).1 (itI c n s).2.2 else itI c n s:=by
 rw [itI_add];rfl
theorem itI_okay {c:List Ins} (hc:c.length≤2048) {s:Int × Int × List Int} (h:Okay s.1 s.2.1 s.2.2):∀ n,Okay (itI c n s).1 (itI c n s).2.1 (itI c n s).2.2∧(itI c n s).2.2.length=s.2.2.length
 | 0=>⟨h,rfl⟩
 | n+1=>by
  obtain ⟨h1,h2⟩:=itI_okay hc h n
  obtain ⟨h3,h4⟩:=run_okay hc h1
  rw [itI_succ]
  unfold runI at h3 h4
  split at h3
  ·rename_i q
   rw [if_pos q] at h4 ⊢
   exact ⟨h3,h4.trans h2⟩
  ·rename_i q
   rw [if_neg q]
   exact ⟨h1,h2⟩
set_option maxRecDepth 100000 in
theorem run_any (A:Option Addr) (b off cn cap:Nat) (c:List Ins) (pc halt:Int) (b' off' n cap':Nat) (m:List Int) (most:Nat) (hmost:most≤1048576) (w:World) (h:RunPre w A b off cn c b' off' n pc halt m) :
 Calls Tryz.prog 26 #[.slice A cn cap,.agg (stCells pc (some ⟨b',off',none⟩) n cap' halt),.int .i64 most] w fun e w'=>∃ (v:Value) (k:Nat),e=.returned (.tuple #[v,.int .i64 k,.bool (!((itI c most (pc,halt,m)).2.1 == 0))])∧k≤most∧OwnsS w w' v n (itI c most (pc,halt,m)).1 (itI c most (pc,halt,m)).2.1 (itI c most (pc,halt,m)).2.2:=by
 obtain ⟨hops,hcA,hrow,hcn,hcn2,hn,hg,hmok,hmrow⟩:=h
 obtain ⟨h1,h2,h3,h4,h5,h6⟩:=rightS_inv hg
 have HOK:=J (show Okay (pc,halt,m).1 (pc,halt,m).2.1 (pc,halt,m).2.2 from ⟨by rw [← hn];exact hg,hmok⟩)
 have HC2:=J (show c.length≤2048 by omega)
 have HOP:=J hops
 have HA:=J hcA
 have HR:=J hrow
 have HCN:=J hcn
 have HN:=J hn
 have HG:=J hg
 have HO:=J hmok
 clear hops hcA hrow hcn hn hg hmok
 have hx0:Ext w _:=((kR _ w).alloc (.cells (stCells pc (some ⟨b',off',none⟩) n cap' halt) 49)).alloc (.cells (stCells 0 none 0 0 0) 49)
 have hA0:Blk _ w.heap.size 49 (stCells pc (some ⟨b',off',none⟩) n cap' halt):=Blk.alloc (bN w _ _) (.cells (stCells 0 none 0 0 0) 49)
 have hR0:Blk _ (w.heap.size+1) 49 (stCells 0 none 0 0 0):=Blk.new' (w.alloc (.cells (stCells pc (some ⟨b',off',none⟩) n cap' halt) 49)) _ _ _ zb86
 have hr0:=hmrow.ext hx0
 clear hmrow
 go_enter Tryz.func26,Tryz.ntmps26
 go_wp2_with fail
 refine (sclone_any pc halt b' off' cap' m n HN.out h1 zb85 _ hr0).mono ?_
 rintro e w1 ⟨v1,rfl,g,kc,rfl,hM1,hx1⟩
 have hA1:=bX hA0 hx1
 have hR1:=bX hR0 hx1
 have lA:=hA0.lt
 have lR:=hR0.lt
 have hgb:=hM1.ge
 have hh1:=bH hA1
 have hm1:=Blk.melts hA1
 have hA2:Blk (putAt w1 w.heap.size 0 (stCells pc (some ⟨g,0,none⟩) n kc halt)) w.heap.size 49 (stCells pc (some ⟨g,0,none⟩) n kc halt):=Blk.put_ hA1 _ _
 have hR2:=Blk.putFar hR1 (show w.heap.size+1 ≠ w.heap.size by omega) 0 (stCells pc (some ⟨g,0,none⟩) n kc halt)
 have hM2:MemAt (putAt w1 w.heap.size 0 (stCells pc (some ⟨g,0,none⟩) n kc halt)) w.heap.size g n kc m:=own_mono (hM1.kept (Kept.putAt (S:=(·=w.heap.size)) (kR _ w1) w.heap.size 0 (stCells pc (some ⟨g,0,none⟩) n kc halt) (fun _=>rfl)) zb85) zb85
 have y2:Ext w (putAt w1 w.heap.size 0 (stCells pc (some ⟨g,0,none⟩) n kc halt)):=Kept.putAt (hx0.trans hx1) _ _ _ (fun h=>by omega)
 go_upto_region 2 with (fail)
 clear hA0 hR0 hA1 hR1 hM1 hh1 hm1 hx0 hr0
 generalize (putAt w1 w.heap.size 0 (stCells pc (some ⟨g,0,none⟩) n kc halt))=W2 at hA2 hR2 hM2 y2 ⊢
 have i1:=bH hA2
 have i2:=bG hA2
 go_wp2_with fail
 refine (right_any pc halt (some ⟨g,0,none⟩) n kc _).mono ?_
 rintro e w3 ⟨rfl,hx3⟩
 rw [HG.out]
 have hA3:=bX hA2 hx3
 have hR3:=bX hR2 hx3
 have hM3:=hM2.ext hx3
 have y3:=y2.trans hx3
 clear hA2 hR2 hM2 y2 hx3 i1 i2
 go_wp2_with fail
 refine (twos_any _).mono ?_
 rintro e w4 ⟨rfl,hQ4,hx4⟩
 have hA4:=bX hA3 hx4
 have hR4:=bX hR3 hx4
 have hM4:=hM3.ext hx4
 have y4:=y3.trans hx4
 have lg:=hM3.lt
 clear hA3 hR3 hM3 y3 hx4
 generalize w3.heap.size=q at hQ4 lg ⊢
 have hgS:¬ w.heap.size=g:=by omega
 go_wp2_with fail
 go_loopw [10] (fun t10 wr=>∃ (k:Nat),t10=.int .i64 k∧k≤most∧StAt wr w.heap.size 49 (itI c k (pc,halt,m)).1 (some ⟨g,0,none⟩) n kc (itI c k (pc,halt,m)).2.1∧MemAt wr w.heap.size g n kc (itI c k (pc,halt,m)).2.2∧Kept (fun i=>i=w.heap.size ∨ i=g) w4 wr) (fun t10 _=>most - (intOf t10).toNat)
 case atStart=>exact ⟨0,rfl,Nat.zero_le _,hA4,hM4,kR _ _⟩
 case round =>
  obtain ⟨k,rfl,hk,hA,hM,hK4⟩:=hrel
  have hRr:=bK hR4 hK4 zb85
  have yr:Ext w wr:=y4.trans' hK4 (fun i hi e=>by omega)
  obtain ⟨hok,hlen⟩:=itI_okay HC2.out (s:=(pc,halt,m)) HOK.out k
  have hsucc:=itI_succ c k (pc,halt,m)
  obtain ⟨r,hr⟩:∃ r,r=itI c k (pc,halt,m):=⟨_,rfl⟩
  rw [← hr] at hA hM hok hlen hsucc
  have HRR:=J hr
  clear hr
  obtain ⟨pc',halt',m'⟩:=r
  simp only at hA hM hok hlen hsucc
  have HLEN:=J hlen
  have HOKK:=J hok
  have HSUCC:=J hsucc
  clear hok hlen hsucc
  by_cases hgo:k < most∧halt'=0
  ·obtain ⟨hlt,rfl⟩:=hgo
   obtain ⟨_,_,p0,p1,_,_⟩:=rightS_inv HOKK.out.right
   have hpre:StepPre wr w.heap.size w.heap.size g n kc q A b off cn c pc' m' :=
    ⟨HN.out.trans HLEN.out.symm,h1,h2,HOKK.out.mok,HOP.out.ext yr,hA,hM,hQ4.kept hK4 zb85,HA.out,fun h0=>(HR.out h0).ext yr,HCN.out,hcn2,p0,p1,hgS⟩
   have HPRE:=J hpre
   clear hpre
   have hcA:=bC hA
   have hltI:(k:Int) < min (most:Int) 1048576:=by omega
   go_wp2_with fail
   refine (step_any wr w.heap.size w.heap.size g n kc q A b off cn cap c pc' m' HPRE.out).mono ?_
   rintro e w5 ⟨rfl,hst5⟩
   have e1:stepI c pc' m'=itI c (k+1) (pc,halt,m):=by rw [HSUCC.out];simp
   rw [e1] at hst5
   have HST:=J hst5
   clear hst5 e1
   go_wp2_with fail
   go_roundw
   case rel=>exact ⟨k+1,by go_num,hlt,HST.out.st,HST.out.mem,hK4.trans HST.out.kept⟩
   case measure=>simp only [intOf];omega
  ·have hfin:itI c most (pc,halt,m)=(pc',halt',m'):=by
    rcases Nat.lt_or_ge k most with hlt | hge
    ·rw [show most=k+(most - k) by omega,itI_add,← HRR.out,itI_halt]
     exact fun z=>hgo ⟨hlt,z⟩
    ·rw [show most=k by omega,HRR.out]
   have HFIN:=J hfin
   have hstop:(k:Int) < min (most:Int) 1048576→(halt' == 0)=false:=fun hq=>by
    have:¬ halt'=0:=fun z=>hgo ⟨by omega,z⟩
    simpa using this
   clear hfin hgo
   have hcA:=bC hA
   have lA:=hA.lt
   have lR:=hRr.lt
   have hhR:=bH hRr
   have hmR:=Blk.melts hRr
   have fin:∀ wz:World,Blk wz (w.heap.size+1) 49 (stCells pc' (some ⟨g,0,none⟩) n kc halt')→MemAt wz w.heap.size g n kc m'→Ext w wz→∃ (v:Value) (k':Nat),Ending.returned (.tuple #[.agg (stCells pc' (some ⟨g,0,none⟩) n kc halt'),.int .i64 k,.bool (!(halt' == 0))])=.returned (.tuple #[v,.int .i64 k',.bool (!((itI c most (pc,halt,m)).2.1 == 0))])∧k'≤most∧OwnsS w wz v n (itI c most (pc,halt,m)).1 (itI c most (pc,halt,m)).2.1 (itI c most (pc,halt,m)).2.2:=fun wz _ hMz yz=>by
    rw [HFIN.out]
    exact ⟨_,k,rfl,hk,g,kc,rfl,hMz,yz⟩
   have FIN:=J fin
   clear fin
   by_cases hlt:(k:Int) < min (most:Int) 1048576
   ·have hs0:=hstop hlt
    clear hstop
    exact zz15
   ·clear hstop
    exact zz15
end Go.Proofs.YtbfbabbcdochjaaGreatDoor.Mc
namespace Go.Proofs.YtbfbabbcdochjaaGreatDoor.So
open Go.RowKit Mc
abbrev w32 (x:Int):Int:=IntKind.i32.wrap x
theorem w32_def (x:Int):w32 x=(x+2147483648) % 4294967296 - 2147483648:=by
 unfold w32
 simp only [IntKind.wrap,IntKind.signed,IntKind.bits]
 simp
 omega
structure Mk where (V:List Vr) (seats:Int) (b:Int)
def fr (b:Int) (i:Int):Int:=b+33+i
def twoOp (op:Int):Int:=if op=5 ∨ op=6 ∨ op=7 then op else if op=8 then 3 else if op=9 then 4 else if op=10 then 8 else if op=11 then 9 else if op=12 ∨ op=14 then 10 else if op=13 ∨ op=15 then 11 else if op=16 then 12 else if op=17 then 13 else 0
abbrev Wd:=Str→Int
def cE (k:Mk) (W:Wd):EF→Nat→Int→List Ins
 | .nil,_,_=>[]
 | .cons _ _ _ _ r,j+1,tw=>cE k W r j tw
 | .cons op n name kids _,0,tw =>
  if op=0 then [⟨1,fr k.b tw,n,0⟩]
  else if op=1 then [⟨2,fr k.b tw,W name,0⟩]
  else if op=2 then cE k W kids 0 tw ++ [⟨18,fr k.b (tw+1),fr k.b tw,(cellX k.V name).size⟩,⟨5,fr k.b tw,fr k.b tw,fr k.b (tw+1)⟩,⟨15,fr k.b tw,W name,fr k.b tw⟩,⟨5,fr k.b tw,fr k.b tw,fr k.b (tw+1)⟩]
  else if op=3 then cE k W kids 0 tw ++ [⟨1,fr k.b (tw+1),0,0⟩,⟨4,fr k.b tw,fr k.b (tw+1),fr k.b tw⟩]
  else if op=4 then cE k W kids 0 tw ++ [⟨14,fr k.b tw,fr k.b tw,0⟩]
  else if op=14 ∨ op=15 then cE k W kids 1 tw ++ cE k W kids 0 (tw+1) ++ [⟨twoOp op,fr k.b tw,fr k.b tw,fr k.b (tw+1)⟩]
  else cE k W kids 0 tw ++ cE k W kids 1 (tw+1) ++ [⟨twoOp op,fr k.b tw,fr k.b tw,fr k.b (tw+1)⟩]
def updW (W:Wd) (s:Str) (v:Int):Wd:=fun t=>if t=s then v else W t
def someI (k:Mk) (i:Int):List Ins:=[⟨18,fr k.b (i+1),fr k.b i,k.seats⟩,⟨5,fr k.b i,fr k.b i,fr k.b (i+1)⟩]
def cS0 (k:Mk) (W:Wd) (at_:Int) (kind:Int) (name:Str) (e:EF) (low:Int):List Ins :=
 if kind=0 then cE k W e 0 0 ++ [⟨17,fr k.b 0,(cellX k.V name).low,(cellX k.V name).high⟩,⟨2,W name,fr k.b 0,0⟩]
 else if kind=1 then cE k W e 0 0 ++ cE k W e 1 1 ++ [⟨18,fr k.b 2,fr k.b 0,(cellX k.V name).size⟩,⟨20,at_+(cE k W e 0 0).length+(cE k W e 1 1).length+4,fr k.b 2,0⟩,⟨17,fr k.b 1,(cellX k.V name).low,(cellX k.V name).high⟩,⟨16,W name,fr k.b 0,fr k.b 1⟩]
 else if kind=4 then [⟨0,1,0,0⟩]
 else if kind=5 then [⟨1,k.b+5,W name,0⟩,⟨1,k.b+6,low,0⟩]
 else if kind=6 then cE k W e 0 0 ++ [⟨2,k.b+4,fr k.b 0,0⟩,⟨0,0,0,0⟩]
 else if kind=7 then [⟨1,k.b+4,-1,0⟩,⟨0,0,0,0⟩]
 else if kind=8 then cE k W e 1 0 ++ cE k W e 0 1 ++ someI k 1 ++ [⟨17,fr k.b 0,0,1073741823⟩,⟨15,fr k.b 2,k.b+8,fr k.b 1⟩,⟨3,fr k.b 0,fr k.b 0,fr k.b 2⟩,⟨17,fr k.b 0,0,1073741823⟩,⟨16,k.b+8,fr k.b 1,fr k.b 0⟩]
 else cE k W e 0 0 ++ someI k 0 ++ [⟨2,k.b+7,fr k.b 0,0⟩]
def cIf (k:Mk) (at_:Int) (E L X:List Ins):List Ins :=
 E ++ [⟨20,at_+E.length+1+L.length+1,fr k.b 0,0⟩] ++ L ++ [⟨19,at_+E.length+1+L.length+1+X.length,0,0⟩] ++ X
def cIf1 (k:Mk) (at_:Int) (E L:List Ins):List Ins:=E ++ [⟨20,at_+E.length+1+L.length,fr k.b 0,0⟩] ++ L
def upI (k:Mk) (f:Nat):Int:=k.b+17+2 * f
def cFor (k:Mk) (f:Nat) (at_ low high:Int) (B:List Ins):List Ins :=
 [⟨1,k.b+16,1,0⟩,⟨1,upI k f,low,0⟩,⟨1,upI k f+1,high - low+1,0⟩] ++ B ++ [⟨3,upI k f,upI k f,k.b+16⟩,⟨4,upI k f+1,upI k f+1,k.b+16⟩,⟨21,at_+3,upI k f+1,0⟩]
def cB (k:Mk):SF→Wd→Nat→Int→List Ins
 | .nil,_,_,_=>[]
 | .cons kind name e low high l els r,W,f,at_ =>
  (if kind=2 then (if els.isNil then cIf1 k at_ (cE k W e 0 0) (cB k l W f (at_+(cE k W e 0 0).length+1))
   else cIf k at_ (cE k W e 0 0) (cB k l W f (at_+(cE k W e 0 0).length+1)) (cB k els W f (at_+(cE k W e 0 0).length+1+(cB k l W f (at_+(cE k W e 0 0).length+1)).length+1)))
   else if kind=3 then (if high < low then [] else cFor k f at_ low high (cB k l (updW W name (upI k f)) (f+1) (at_+3)))
   else cS0 k W at_ kind name e low) ++
  cB k r W f (at_+(if kind=2 then (if els.isNil then cIf1 k at_ (cE k W e 0 0) (cB k l W f (at_+(cE k W e 0 0).length+1))
   else cIf k at_ (cE k W e 0 0) (cB k l W f (at_+(cE k W e 0 0).length+1)) (cB k els W f (at_+(cE k W e 0 0).length+1+(cB k l W f (at_+(cE k W e 0 0).length+1)).length+1)))
   else if kind=3 then (if high < low then [] else cFor k f at_ low high (cB k l (updW W name (upI k f)) (f+1) (at_+3)))
   else cS0 k W at_ kind name e low).length)
def cS (k:Mk) (W:Wd) (f:Nat) (at_:Int) (kind:Int) (name:Str) (e:EF) (low high:Int) (l els:SF):List Ins :=
 if kind=2 then (if els.isNil then cIf1 k at_ (cE k W e 0 0) (cB k l W f (at_+(cE k W e 0 0).length+1))
  else cIf k at_ (cE k W e 0 0) (cB k l W f (at_+(cE k W e 0 0).length+1)) (cB k els W f (at_+(cE k W e 0 0).length+1+(cB k l W f (at_+(cE k W e 0 0).length+1)).length+1)))
  else if kind=3 then (if high < low then [] else cFor k f at_ low high (cB k l (updW W name (upI k f)) (f+1) (at_+3)))
  else cS0 k W at_ kind name e low
theorem cB_cons (k:Mk) (W:Wd) (f:Nat) (at_:Int) (kind:Int) (name:Str) (e:EF) (low high:Int) (l els r:SF) :
 cB k (.cons kind name e low high l els r) W f at_=cS k W f at_ kind name e low high l els ++ cB k r W f (at_+(cS k W f at_ kind name e low high l els).length):=by
 rw [cB];rfl
/-! ### what rules mean -/
structure RS where (vars:List Int) (binds:List (Str × Int)) (over refused:Bool) (seat cell sides:Int) (asks:List Int) (rest:Int)
def bindG (l:List (Str × Int)) (s:Str):Option Int:=(l.find? (fun x=>decide (x.1=s))).map (·.2)
def nameV (V:List Vr) (R:RS) (s:Str):Int:=match bindG R.binds s with | some v=>v | none=>R.vars.getD (cellN V s).toNat 0
def cutR (n lo hi:Int):Int:=w32 (max lo (min n hi))
def divR (a b:Int):Int:=if b=0 then 0 else w32 (a.tdiv b)
def join (op a b:Int):Int :=
 if op=5 then w32 (a * b) else if op=6 then divR a b else if op=7 then (if b=0 then 0 else w32 (a - divR a b * b))
 else if op=8 then w32 (a+b) else if op=9 then w32 (a - b) else if op=10 then truthI (a == b) else if op=11 then truthI (a != b)
 else if op=12 then truthI (decide (a < b)) else if op=13 then truthI (decide (a≤b)) else if op=14 then truthI (decide (a > b)) else if op=15 then truthI (decide (a ≥ b))
 else if op=16 then truthI (a != 0 && b != 0) else truthI (a != 0 || b != 0)
def ev (V:List Vr) (R:RS):EF→Nat→Int
 | .nil,_=>0
 | .cons _ _ _ _ r,j+1=>ev V R r j
 | .cons op n name kids _,0 =>
  if op=0 then w32 n
  else if op=1 then nameV V R name
  else if op=2 then (if ev V R kids 0 < 0 ∨ (cellX V name).size≤ev V R kids 0 then 0 else R.vars.getD (cellN V name+ev V R kids 0).toNat 0)
  else if op=3 then join 9 0 (ev V R kids 0)
  else if op=4 then truthI (ev V R kids 0 == 0)
  else join op (ev V R kids 0) (ev V R kids 1)
def seatR (seats n:Int):Int:=if n < 0 ∨ seats≤n then 0 else n
def roundsR (g:Int→RS→RS):Nat→Int→RS→RS
 | 0,_,R=>R
 | n+1,i,R=>if R.over then R else roundsR g n (i+1) (g i R)
def do0 (V:List Vr) (seats:Int) (kind:Int) (name:Str) (e:EF) (low:Int) (R:RS):RS :=
 if kind=0 then { R with vars:=R.vars.set (cellN V name).toNat (cutR (ev V R e 0) (cellX V name).low (cellX V name).high) }
 else if kind=1 then (if 0≤ev V R e 0∧ev V R e 0 < (cellX V name).size then { R with vars:=R.vars.set (cellN V name+ev V R e 0).toNat (cutR (ev V R e 1) (cellX V name).low (cellX V name).high) } else R)
 else if kind=4 then { R with over:=true,refused:=true }
 else if kind=5 then { R with cell:=cellN V name,sides:=low }
 else if kind=6 then { R with seat:=ev V R e 0,over:=true }
 else if kind=7 then { R with seat:=-1,over:=true }
 else if kind=8 then { R with asks:=R.asks.set (seatR seats (ev V R e 0)).toNat (cutR (R.asks.getD (seatR seats (ev V R e 0)).toNat 0+cutR (ev V R e 1) 0 1073741823) 0 1073741823) }
 else if kind=9 then { R with rest:=seatR seats (ev V R e 0) }
 else R
def doB (V:List Vr) (seats:Int):SF→RS→RS
 | .nil,R=>R
 | .cons kind name e low high l els r,R =>
  if R.over then R else doB V seats r
   (if kind=2 then (if ev V R e 0 ≠ 0 then doB V seats l R else doB V seats els R)
   else if kind=3 then { roundsR (fun i R'=>doB V seats l { R' with binds:=R.binds ++ [(name,w32 i)] }) (high - low+1).toNat low R with binds:=R.binds }
   else do0 V seats kind name e low R)
def doS (V:List Vr) (seats:Int) (kind:Int) (name:Str) (e:EF) (low high:Int) (l els:SF) (R:RS):RS :=
 if kind=2 then (if ev V R e 0 ≠ 0 then doB V seats l R else doB V seats els R)
  else if kind=3 then { roundsR (fun i R'=>doB V seats l { R' with binds:=R.binds ++ [(name,w32 i)] }) (high - low+1).toNat low R with binds:=R.binds }
  else do0 V seats kind name e low R
theorem doB_cons (V:List Vr) (seats:Int) (kind:Int) (name:Str) (e:EF) (low high:Int) (l els r:SF) (R:RS) :
 doB V seats (.cons kind name e low high l els r) R=if R.over then R else doB V seats r (doS V seats kind name e low high l els R):=by
 rw [doB];rfl
/-! ### how many steps -/
def ownE (op:Int):Nat:=if op=0 ∨ op=1 then 1 else if op=2 then 6 else 2
def costF:EF→Nat
 | .nil=>0
 | .cons op _ _ kids r=>(ownE op+if op=0 ∨ op=1 then 0 else costF kids)+costF r
def ownS (kind:Int):Nat:=if kind=1 then 6 else if kind=4 ∨ kind=7 then 2 else if kind=5 then 4 else if kind=8 then 8 else if 0≤kind∧kind≤9 then 3 else 1
def hasE (kind:Int):Bool:=decide (kind=0 ∨ kind=1 ∨ kind=2 ∨ kind=6 ∨ kind=8 ∨ kind=9)
def costB:SF→Nat
 | .nil=>0
 | .cons kind _ e low high l els r =>
  (ownS kind+(if hasE kind then costF e else 0)+if kind=2 then max (costB l) (costB els) else if kind=3∧low≤high then ((min (high - low) 65536).toNat+1) * (4+costB l) else 0)+costB r
end Go.Proofs.YtbfbabbcdochjaaGreatDoor.So
