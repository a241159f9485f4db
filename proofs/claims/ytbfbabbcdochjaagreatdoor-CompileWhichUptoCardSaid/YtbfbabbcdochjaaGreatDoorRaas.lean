/- Several texts joined: Kg, Kh, Kia, Kib, Kic. -/
import Derived.Test.YtbfbabbcdochjaaGreatDoorRapk
import Derived.Test.YtbfbabbcdochjaaGreatDoorRaar
set_option maxHeartbeats 4000000
namespace Go.Proofs.YtbfbabbcdochjaaGreatDoor.Mc
open Go.RowKit
def MemAt (w:World) (base g n kc:Nat) (m:List Int):Prop:=w.ownsRow base 21 1 (.slice (some ⟨g,0,none⟩) n kc) n (mems m)
section
variable {w w':World} {base g n kc:Nat} {m:List Int}
theorem mems_len (m:List Int):(mems m).length=m.length:=by simp [mems]
theorem MemAt.inv (h:MemAt w base g n kc m):n=m.length∧∃ cur,base≤g∧w.heap[g]?=some (.cells cur 21 (0,0))∧n≤kc∧kc≤maxLen∧cur.size=kc∧cur.toList.take n=mems m:=by
 have hl:=h.1
 rw [mems_len,Nat.mul_one] at hl
 rcases h.2 with ⟨hv,_⟩ | ⟨g',c,cur,hv,hb,hc,hnc,hcm,hcs,htk⟩
 ·simp at hv
 ·simp at hv
  obtain ⟨rfl,rfl⟩:=hv
  rw [Nat.mul_one] at hcs htk
  exact ⟨hl.symm,cur,hb,hc,hnc,hcm,hcs,htk⟩
theorem MemAt.row (h:MemAt w base g n kc m):Row w g 0 (mems m):=by
 obtain ⟨hn,cur,hb,hc,hnc,hcm,hcs,htk⟩:=h.inv
 refine ⟨?_,?_,(Array.getElem?_eq_some_iff.1 hc).1⟩
 ·unfold Proofs.YtbfbabbcdochjaaGreatDoor.has;rw [hc,mems_len];simp;omega
 ·unfold gets;rw [hc,mems_len,← hn];simp only [List.drop_zero];rw [htk]
theorem MemAt.lt (h:MemAt w base g n kc m):g < w.heap.size:=h.row.lt
theorem MemAt.cell (h:MemAt w base g n kc m) (k:Nat) (hk:k < m.length):w.cell? ⟨g,k,none⟩=some (.int .i32 m[k]):=by
 have:=h.row.mem k hk
 rwa [Nat.zero_add] at this
theorem MemAt.frozen (h:MemAt w base g n kc m) (k:Nat):w.frozen? ⟨g,k,none⟩=false:=by
 obtain ⟨hn,cur,hb,hc,_⟩:=h.inv
 simp [World.frozen?,hc]
theorem MemAt.kept {S:Nat→Prop} (h:MemAt w base g n kc m) (hk:Kept S w w') (hs:¬ S g):MemAt w' base g n kc m:=own_kept h hk (fun x hx=>by simp [Value.ownBlock] at hx;subst hx;exact hs)
theorem MemAt.ext (h:MemAt w base g n kc m) (hk:Ext w w'):MemAt w' base g n kc m:=own_ext h hk
theorem MemAt.far (h:MemAt w base g n kc m) {p:Addr} (hp:¬ g=p.block) (u:Value):MemAt (w.setCell p u) base g n kc m :=
 h.kept (Kept.setCell (S:=(·=p.block)) (Kept.refl _ w) p u (fun _=>rfl)) hp
theorem MemAt.set (h:MemAt w base g n kc m) (k:Nat) (_hk:k < m.length) (v:Int):MemAt (w.setCell ⟨g,k,none⟩ (.int .i32 v)) base g n kc (m.set k v):=by
 obtain ⟨hn,cur,hb,hc,hnc,hcm,hcs,htk⟩:=h.inv
 refine ⟨by rw [mems_len];simp [hn],.inr ⟨g,kc,cur.setIfInBounds k (.int .i32 v),rfl,hb,?_,hnc,hcm,by simpa using hcs,?_⟩⟩
 ·simp [World.setCell,Array.getElem?_modify,hc]
 ·rw [Nat.mul_one,Array.toList_setIfInBounds,List.take_set,htk,mems,mems,List.map_set]
end
structure Stepped (w w':World) (base s g n kc:Nat) (r:Int × Int × List Int):Prop where
 st:StAt w' s 49 r.1 (some ⟨g,0,none⟩) n kc r.2.1
 mem:MemAt w' base g n kc r.2.2
 kept:Kept (fun i=>i=s ∨ i=g) w w'
theorem Stepped.goal {w w2:World} {base s g n kc:Nat} {m:List Int} {pc halt:Int} (hk:Kept (fun i=>i=s ∨ i=g) w w2) (hs:StAt w2 s 49 pc (some ⟨g,0,none⟩) n kc halt) (hm:MemAt w2 base g n kc m) (hsg:¬ s=g) (pc':Int) :
 Stepped w (w2.setCell ⟨s,0,none⟩ (.int .i64 pc')) base s g n kc (pc',halt,m) :=
 ⟨Blk.set_ hs 0 (.int .i64 pc'),hm.far (fun e=>hsg e.symm) _,Kept.setCell hk _ _ (fun _=>.inl rfl)⟩
theorem Stepped.halt {w w2:World} {base s g n kc:Nat} {m:List Int} {pc halt:Int} (hk:Kept (fun i=>i=s ∨ i=g) w w2) (hs:StAt w2 s 49 pc (some ⟨g,0,none⟩) n kc halt) (hm:MemAt w2 base g n kc m) (hsg:¬ s=g) (halt':Int) :
 Stepped w (w2.setCell ⟨s,2,none⟩ (.int .i64 halt')) base s g n kc (pc,halt',m) :=
 ⟨Blk.set_ hs 2 (.int .i64 halt'),hm.far (fun e=>hsg e.symm) _,Kept.setCell hk _ _ (fun _=>.inl rfl)⟩
def mget (m:List Int) (i:Int):Int:=m.getD i.toNat 0
def mput (m:List Int) (i:Int) (v:Int):List Int:=m.set i.toNat v
def execI (i:Ins) (pc:Int) (m:List Int):Int × Int × List Int :=
 if i.op=0 then (pc,1+i.a,m)
 else if i.op=1 then (pc+1,0,mput m i.a i.b)
 else if i.op=2 then (pc+1,0,mput m i.a (mget m i.b))
 else if i.op=14 then (pc+1,0,mput m i.a (truthI (mget m i.b == 0)))
 else if i.op=15 then (pc+1,0,mput m i.a (mget m (farI i m)))
 else if i.op=16 then (pc+1,0,mput m (farI i m) (mget m i.c))
 else if i.op=17 then (pc+1,0,mput m i.a (min (max (mget m i.a) i.b) i.c))
 else if i.op=18 then (pc+1,0,mput m i.a (truthI (decide (0≤mget m i.b) && decide (mget m i.b < i.c))))
 else if i.op=19 then (i.a,0,m)
 else if i.op=20 then (if mget m i.b=0 then i.a else pc+1,0,m)
 else if i.op=21 then (if mget m i.b=0 then pc+1 else i.a,0,m)
 else (pc+1,0,mput m i.a (twoI i.op.toNat (mget m i.b) (mget m i.c)))
def lost (i:Ins) (m:List Int):Bool:=decide (farI i m < 0) && (i.op == 15 || i.op == 16)
def stepI (c:List Ins) (pc:Int) (m:List Int):Int × Int × List Int :=
 match nextI c pc m.length with
 | none=>(pc,2,m)
 | some i=>if lost i m=true then (pc,2,m) else execI i pc m
open Go.RowKit
structure StepPre (w:World) (base s g n kc q:Nat) (A:Option Addr) (b off cn:Nat) (c:List Ins) (pc:Int) (m:List Int):Prop where
 n_eq:n=m.length
 n1:1≤n
 n2:n≤256
 mok:∀ x ∈ m,i32ok x
 ops:OpsAt w
 st:StAt w s 49 pc (some ⟨g,0,none⟩) n kc 0
 mem:MemAt w base g n kc m
 map:MapB w q (twosE 11) 11
 cA:0 < cn→A=some ⟨b,off,none⟩
 row:0 < cn→Row w b off (inss c)
 cn_eq:cn=c.length
 cn2:cn≤2048
 pc0:0≤pc
 pc1:pc≤2048
 sg:¬ s=g
theorem mget_in {m:List Int} {k:Nat} (hk:k < m.length):mget m (k:Int)=m[k]:=by simp [mget,hk]
theorem results_none' {P:Program} {fn:Func} {R:Ending→World→Prop} {a:Act} {w:World} (hres:fn.results=#[]) (hd:a.defers=[]) (hR:R (.returned (.tuple #[])) w):bodyPost P fn R .ret a w :=
 bodyPost_ret (results_none hres _ _ _) hd hR
open Go.RowKit
set_option maxRecDepth 100000 in
theorem st_0 (w:World) (base s g n kc q:Nat) (A:Option Addr) (b off cn cap:Nat) (c:List Ins) (pc:Int) (m:List Int) (h:StepPre w base s g n kc q A b off cn c pc m) (a y z:Int) (ha:a=0 ∨ a=1) (hnx:nextI c pc n=some ⟨0,a,y,z⟩) (hright:rightI ⟨0,a,y,z⟩ cn n=true) :
 Calls Tryz.prog 63 #[.pointer (some ⟨s,0,none⟩),.slice A cn cap,.map (some q)] w fun e w'=>e=.returned (.tuple #[])∧Stepped w w' base s g n kc (execI ⟨0,a,y,z⟩ pc m):=by
 obtain ⟨hn,hn1,hn2,hmok,hops,hst,hmem,hmap,hcA,hrow,hcn,hcn2,hpc0,hpc1,hsg⟩:=h
 have hls:=hst.lt
 have hlg:=hmem.lt
 have hlq:=hmap.lt
 have hgs:¬ g=s:=fun e=>hsg e.symm
 have HX:=zhd hnx
 have HN:=zhd hn
 have HO:=zhd hmok
 have HOP:=zhd hops
 have HA:=zhd hcA
 have HR:=zhd hrow
 have HCN:=zhd hcn
 have HRT:=zhd hright
 clear hnx hn hmok hops hcA hrow hcn hright
 go_enter Tryz.func63,Tryz.ntmps63
 go_wp2_with fail
 refine (next_any s pc 0 (some ⟨g,0,none⟩) n kc A b off c cn cap _ HCN.out hcn2 hpc0 HA.out HOP.out hst HR.out).mono ?_
 rintro e w1 ⟨e1,hx1⟩
 replace e1:e=.returned (.tuple #[.agg (Ins.cells ⟨0,a,y,z⟩),.bool true]):=by rw [e1,HX.out];rfl
 subst e1
 have hI1:=Blk.new w1 77 (Ins.cells ⟨0,a,y,z⟩)
 have x1:=hx1.alloc (.cells (Ins.cells ⟨0,a,y,z⟩) 77)
 have hS1:=Blk.ext hst x1
 have hM1:=hmem.ext x1
 have hQ1:=hmap.ext x1
 have l1:=hx1.size
 clear hst hmem hmap hx1
 go_upto_region 3 with (fail)
 generalize (w1.alloc (.cells (Ins.cells ⟨0,a,y,z⟩) 77))=W1 at hI1 x1 hS1 hM1 hQ1 ⊢
 generalize w1.heap.size=ic at hI1 l1 ⊢
 have hi1:=Blk.has hI1
 have hj1:=Blk.gets hI1
 go_wp2_with fail
 refine (far_any ⟨0,a,y,z⟩ cn s pc 0 g 0 n kc m _ HN.out hn2 HRT.out HO.out hS1 hM1.row).mono ?_
 rintro e w2 ⟨e2,hx2⟩
 replace e2:e=.returned (.int .i64 (-1)):=by rw [e2];rfl
 subst e2
 have x2:=x1.trans hx2
 have hI2:=Blk.ext hI1 hx2
 have hS2:=Blk.ext hS1 hx2
 have hM2:=hM1.ext hx2
 have hQ2:=hQ1.ext hx2
 clear hI1 hS1 hM1 hQ1 x1 hx2 hi1 hj1
 have hcI:=Blk.cell hI2
 have hcS:=Blk.cell hS2
 have hfS:=Blk.frozen hS2
 have lI:=hI2.lt
 have lS:=hS2.lt
 have lG:=hM2.lt
 have ha1:0≤a:=by omega
 have ha2:a≤1:=by omega
 clear ha
 go_wp2_with fail
 refine results_none' Tryz.results63 rfl ⟨rfl,?_⟩
 exact Stepped.halt (Kept.ext x2) hS2 hM2 hsg _
set_option maxRecDepth 100000 in
theorem st_1 (w:World) (base s g n kc q:Nat) (A:Option Addr) (b off cn cap:Nat) (c:List Ins) (pc:Int) (m:List Int) (h:StepPre w base s g n kc q A b off cn c pc m) (a:Nat) (y z:Int) (ha:a < n) (hy1:-2147483648≤y) (hy2:y≤2147483647) (hnx:nextI c pc n=some ⟨1,a,y,z⟩) (hright:rightI ⟨1,a,y,z⟩ cn n=true) :
 Calls Tryz.prog 63 #[.pointer (some ⟨s,0,none⟩),.slice A cn cap,.map (some q)] w fun e w'=>e=.returned (.tuple #[])∧Stepped w w' base s g n kc (execI ⟨1,a,y,z⟩ pc m):=by
 obtain ⟨hn,hn1,hn2,hmok,hops,hst,hmem,hmap,hcA,hrow,hcn,hcn2,hpc0,hpc1,hsg⟩:=h
 have hls:=hst.lt
 have hlg:=hmem.lt
 have hlq:=hmap.lt
 have hgs:¬ g=s:=fun e=>hsg e.symm
 have HX:=zhd hnx
 have HN:=zhd hn
 have HO:=zhd hmok
 have HOP:=zhd hops
 have HA:=zhd hcA
 have HR:=zhd hrow
 have HCN:=zhd hcn
 have HRT:=zhd hright
 clear hnx hn hmok hops hcA hrow hcn hright
 go_enter Tryz.func63,Tryz.ntmps63
 go_wp2_with fail
 refine (next_any s pc 0 (some ⟨g,0,none⟩) n kc A b off c cn cap _ HCN.out hcn2 hpc0 HA.out HOP.out hst HR.out).mono ?_
 rintro e w1 ⟨e1,hx1⟩
 replace e1:e=.returned (.tuple #[.agg (Ins.cells ⟨1,a,y,z⟩),.bool true]):=by rw [e1,HX.out];rfl
 subst e1
 have hI1:=Blk.new w1 77 (Ins.cells ⟨1,a,y,z⟩)
 have x1:=hx1.alloc (.cells (Ins.cells ⟨1,a,y,z⟩) 77)
 have hS1:=Blk.ext hst x1
 have hM1:=hmem.ext x1
 have hQ1:=hmap.ext x1
 have l1:=hx1.size
 clear hst hmem hmap hx1
 go_upto_region 3 with (fail)
 generalize (w1.alloc (.cells (Ins.cells ⟨1,a,y,z⟩) 77))=W1 at hI1 x1 hS1 hM1 hQ1 ⊢
 generalize w1.heap.size=ic at hI1 l1 ⊢
 have hi1:=Blk.has hI1
 have hj1:=Blk.gets hI1
 go_wp2_with fail
 refine (far_any ⟨1,a,y,z⟩ cn s pc 0 g 0 n kc m _ HN.out hn2 HRT.out HO.out hS1 hM1.row).mono ?_
 rintro e w2 ⟨e2,hx2⟩
 replace e2:e=.returned (.int .i64 (-1)):=by rw [e2];rfl
 subst e2
 have x2:=x1.trans hx2
 have hI2:=Blk.ext hI1 hx2
 have hS2:=Blk.ext hS1 hx2
 have hM2:=hM1.ext hx2
 have hQ2:=hQ1.ext hx2
 clear hI1 hS1 hM1 hQ1 x1 hx2 hi1 hj1
 have hcI:=Blk.cell hI2
 have hcS:=Blk.cell hS2
 have hfS:=Blk.frozen hS2
 have lI:=hI2.lt
 have lS:=hS2.lt
 have lG:=hM2.lt
 have hal:a < m.length:=by have:=HN.out;omega
 have haI:(a:Int) < n:=by omega
 have hcM:=hM2.cell a hal
 have hfM:=hM2.frozen
 have hwb:IntKind.i32.wrap y=y:=by rw [IntKind.wrap_i32];omega
 have HE:Hid (execI ⟨1,a,y,z⟩ pc m=(pc+1,0,m.set a y)):=zhd (by simp [execI,mput])
 go_upto_region 32 with (fail)
 have hS3:=Blk.far hS2 (p:=⟨g,a,none⟩) hsg (.int .i32 (y))
 have hM3:=hM2.set a hal (y)
 have hk3:Kept (fun i=>i=s ∨ i=g) w (w2.setCell ⟨g,a,none⟩ (.int .i32 (y))):=Kept.setCell (Kept.ext x2) _ _ (fun _=>.inr rfl)
 generalize w2.setCell ⟨g,a,none⟩ (.int .i32 y)=W3 at hS3 hM3 hk3 ⊢
 exact zz86
set_option maxRecDepth 100000 in
theorem st_2 (w:World) (base s g n kc q:Nat) (A:Option Addr) (b off cn cap:Nat) (c:List Ins) (pc:Int) (m:List Int) (h:StepPre w base s g n kc q A b off cn c pc m) (a y:Nat) (z:Int) (ha:a < n) (hy:y < n) (hnx:nextI c pc n=some ⟨2,a,y,z⟩) (hright:rightI ⟨2,a,y,z⟩ cn n=true) :
 Calls Tryz.prog 63 #[.pointer (some ⟨s,0,none⟩),.slice A cn cap,.map (some q)] w fun e w'=>e=.returned (.tuple #[])∧Stepped w w' base s g n kc (execI ⟨2,a,y,z⟩ pc m):=by
 obtain ⟨hn,hn1,hn2,hmok,hops,hst,hmem,hmap,hcA,hrow,hcn,hcn2,hpc0,hpc1,hsg⟩:=h
 have hls:=hst.lt
 have hlg:=hmem.lt
 have hlq:=hmap.lt
 have hgs:¬ g=s:=fun e=>hsg e.symm
 have HX:=zhd hnx
 have HN:=zhd hn
 have HO:=zhd hmok
 have HOP:=zhd hops
 have HA:=zhd hcA
 have HR:=zhd hrow
 have HCN:=zhd hcn
 have HRT:=zhd hright
 clear hnx hn hmok hops hcA hrow hcn hright
 go_enter Tryz.func63,Tryz.ntmps63
 go_wp2_with fail
 refine (next_any s pc 0 (some ⟨g,0,none⟩) n kc A b off c cn cap _ HCN.out hcn2 hpc0 HA.out HOP.out hst HR.out).mono ?_
 rintro e w1 ⟨e1,hx1⟩
 replace e1:e=.returned (.tuple #[.agg (Ins.cells ⟨2,a,y,z⟩),.bool true]):=by rw [e1,HX.out];rfl
 subst e1
 have hI1:=Blk.new w1 77 (Ins.cells ⟨2,a,y,z⟩)
 have x1:=hx1.alloc (.cells (Ins.cells ⟨2,a,y,z⟩) 77)
 have hS1:=Blk.ext hst x1
 have hM1:=hmem.ext x1
 have hQ1:=hmap.ext x1
 have l1:=hx1.size
 clear hst hmem hmap hx1
 go_upto_region 3 with (fail)
 generalize (w1.alloc (.cells (Ins.cells ⟨2,a,y,z⟩) 77))=W1 at hI1 x1 hS1 hM1 hQ1 ⊢
 generalize w1.heap.size=ic at hI1 l1 ⊢
 have hi1:=Blk.has hI1
 have hj1:=Blk.gets hI1
 go_wp2_with fail
 refine (far_any ⟨2,a,y,z⟩ cn s pc 0 g 0 n kc m _ HN.out hn2 HRT.out HO.out hS1 hM1.row).mono ?_
 rintro e w2 ⟨e2,hx2⟩
 replace e2:e=.returned (.int .i64 (-1)):=by rw [e2];rfl
 subst e2
 have x2:=x1.trans hx2
 have hI2:=Blk.ext hI1 hx2
 have hS2:=Blk.ext hS1 hx2
 have hM2:=hM1.ext hx2
 have hQ2:=hQ1.ext hx2
 clear hI1 hS1 hM1 hQ1 x1 hx2 hi1 hj1
 have hcI:=Blk.cell hI2
 have hcS:=Blk.cell hS2
 have hfS:=Blk.frozen hS2
 have lI:=hI2.lt
 have lS:=hS2.lt
 have lG:=hM2.lt
 have hal:a < m.length:=by have:=HN.out;omega
 have haI:(a:Int) < n:=by omega
 have hyl:y < m.length:=by have:=HN.out;omega
 have hyI:(y:Int) < n:=by omega
 have hcM:=hM2.cell a hal
 have hfM:=hM2.frozen
 have hcY:=hM2.cell y hyl
 obtain ⟨v,hv⟩:∃ v,v=m[y]:=⟨_,rfl⟩
 have HE:Hid (execI ⟨2,a,y,z⟩ pc m=(pc+1,0,m.set a v)):=zhd (by simp [execI,mput,mget_in hyl,hv])
 have HV:=zhd hv
 clear hv
 go_upto_region 15 with (fail)
 refine qr3 (fun w3=>Ext w2 w3) [(0,2),(1,2),(2,1),(3,2),(4,2),(5,1),(6,2),(7,1),(8,2),(9,0)] ?_;refine qrl ?_
 (repeat (first | refine qs3 ?_ | ((apply w3_take);(· exact (Kept.drew (Kept.refl _ _)));(· go_simp);(· (intro w1 hS;have d1:=Blk.cell (Blk.ext hI2 hS);have d2:=(hM2.ext hS).cell y hyl;rw [← HV.out] at d2; go_simp;try with_reducible rfl));refine qnx ?_) | ((apply w3_pass);(· exact (Kept.drew (Kept.refl _ _)));(· go_simp);refine qnx ?_)))
 exact zz24
open Go.RowKit
set_option maxRecDepth 100000 in
theorem st_14 (w:World) (base s g n kc q:Nat) (A:Option Addr) (b off cn cap:Nat) (c:List Ins) (pc:Int) (m:List Int) (h:StepPre w base s g n kc q A b off cn c pc m) (a y:Nat) (z:Int) (ha:a < n) (hy:y < n) (hnx:nextI c pc n=some ⟨14,a,y,z⟩) (hright:rightI ⟨14,a,y,z⟩ cn n=true) :
 Calls Tryz.prog 63 #[.pointer (some ⟨s,0,none⟩),.slice A cn cap,.map (some q)] w fun e w'=>e=.returned (.tuple #[])∧Stepped w w' base s g n kc (execI ⟨14,a,y,z⟩ pc m):=by
 obtain ⟨hn,hn1,hn2,hmok,hops,hst,hmem,hmap,hcA,hrow,hcn,hcn2,hpc0,hpc1,hsg⟩:=h
 have hls:=hst.lt
 have hlg:=hmem.lt
 have hlq:=hmap.lt
 have hgs:¬ g=s:=fun e=>hsg e.symm
 have HX:=zhd hnx
 have HN:=zhd hn
 have HO:=zhd hmok
 have HOP:=zhd hops
 have HA:=zhd hcA
 have HR:=zhd hrow
 have HCN:=zhd hcn
 have HRT:=zhd hright
 clear hnx hn hmok hops hcA hrow hcn hright
 go_enter Tryz.func63,Tryz.ntmps63
 go_wp2_with fail
 refine (next_any s pc 0 (some ⟨g,0,none⟩) n kc A b off c cn cap _ HCN.out hcn2 hpc0 HA.out HOP.out hst HR.out).mono ?_
 rintro e w1 ⟨e1,hx1⟩
 replace e1:e=.returned (.tuple #[.agg (Ins.cells ⟨14,a,y,z⟩),.bool true]):=by rw [e1,HX.out];rfl
 subst e1
 have hI1:=Blk.new w1 77 (Ins.cells ⟨14,a,y,z⟩)
 have x1:=hx1.alloc (.cells (Ins.cells ⟨14,a,y,z⟩) 77)
 have hS1:=Blk.ext hst x1
 have hM1:=hmem.ext x1
 have hQ1:=hmap.ext x1
 have l1:=hx1.size
 clear hst hmem hmap hx1
 go_upto_region 3 with (fail)
 generalize (w1.alloc (.cells (Ins.cells ⟨14,a,y,z⟩) 77))=W1 at hI1 x1 hS1 hM1 hQ1 ⊢
 generalize w1.heap.size=ic at hI1 l1 ⊢
 have hi1:=Blk.has hI1
 have hj1:=Blk.gets hI1
 go_wp2_with fail
 refine (far_any ⟨14,a,y,z⟩ cn s pc 0 g 0 n kc m _ HN.out hn2 HRT.out HO.out hS1 hM1.row).mono ?_
 rintro e w2 ⟨e2,hx2⟩
 replace e2:e=.returned (.int .i64 (-1)):=by rw [e2];rfl
 subst e2
 have x2:=x1.trans hx2
 have hI2:=Blk.ext hI1 hx2
 have hS2:=Blk.ext hS1 hx2
 have hM2:=hM1.ext hx2
 have hQ2:=hQ1.ext hx2
 clear hI1 hS1 hM1 hQ1 x1 hx2 hi1 hj1
 have hcI:=Blk.cell hI2
 have hcS:=Blk.cell hS2
 have hfS:=Blk.frozen hS2
 have lI:=hI2.lt
 have lS:=hS2.lt
 have lG:=hM2.lt
 have hal:a < m.length:=by have:=HN.out;omega
 have haI:(a:Int) < n:=by omega
 have hyl:y < m.length:=by have:=HN.out;omega
 have hyI:(y:Int) < n:=by omega
 have hcM:=hM2.cell a hal
 have hfM:=hM2.frozen
 obtain ⟨v,hv⟩:∃ v,v=m[y]:=⟨_,rfl⟩
 have Hvr:Hid (i32ok v):=zhd (by rw [hv];exact HO.out _ (List.getElem_mem hyl))
 have HE:Hid (execI ⟨14,a,y,z⟩ pc m=(pc+1,0,m.set a (truthI (v == 0)))):=zhd (by simp [execI,mput,mget_in hyl,hv])
 have HV:=zhd hv
 clear hv
 go_upto_region 17 with (fail)
 refine qr3 (fun w3=>Ext w2 w3) [(0,2),(1,2),(2,1),(3,2),(4,2),(5,1),(6,2),(7,1),(8,2),(9,0),(10,2),(11,0)] ?_;refine qrl ?_
 (repeat (first | refine qs3 ?_ | ((apply w3_take);(· exact (Kept.drew (Kept.refl _ _)));(· go_simp);(· (intro w1 hS;have d1:=Blk.cell (Blk.ext hI2 hS);have d2:=(hM2.ext hS).cell y hyl;rw [← HV.out] at d2; go_simp;try with_reducible rfl));refine qnx ?_) | ((apply w3_pass);(· exact (Kept.drew (Kept.refl _ _)));(· go_simp);refine qnx ?_)))
 (refine w3_act (fun K hK=>?_);go_simp)
 go_wp2_with fail
 refine (truth_any _ _).mono ?_
 rintro e w3 ⟨rfl,rfl⟩
 refine hK.out _ _ (fun h=>h) ?_
 clear hK K
 refine qf3 ?_
 have hS3:StAt (w2.setCell ⟨g,a,none⟩ (.int .i32 (truthI (v == 0)))).drew s 49 pc (some ⟨g,0,none⟩) n kc 0:=Blk.far hS2 (p:=⟨g,a,none⟩) hsg (.int .i32 (truthI (v == 0)))
 have hM3:MemAt (w2.setCell ⟨g,a,none⟩ (.int .i32 (truthI (v == 0)))).drew base g n kc (m.set a (truthI (v == 0))):=(hM2.set a hal (truthI (v == 0))).ext ((Kept.refl _ _).drew)
 have hk3:Kept (fun i=>i=s ∨ i=g) w (w2.setCell ⟨g,a,none⟩ (.int .i32 (truthI (v == 0)))).drew:=(Kept.setCell (Kept.ext x2) _ _ (fun _=>.inr rfl)).drew
 generalize (w2.setCell ⟨g,a,none⟩ (.int .i32 (truthI (v == 0)))).drew=W3 at hS3 hM3 hk3 ⊢
 exact zz86
set_option maxRecDepth 100000 in
theorem st_15 (w:World) (base s g n kc q:Nat) (A:Option Addr) (b off cn cap:Nat) (c:List Ins) (pc:Int) (m:List Int) (h:StepPre w base s g n kc q A b off cn c pc m) (a y z p:Nat) (ha:a < n) (hp:p < n) (hfar:farI ⟨15,a,y,z⟩ m=(p:Int)) (hnx:nextI c pc n=some ⟨15,a,y,z⟩) (hright:rightI ⟨15,a,y,z⟩ cn n=true) :
 Calls Tryz.prog 63 #[.pointer (some ⟨s,0,none⟩),.slice A cn cap,.map (some q)] w fun e w'=>e=.returned (.tuple #[])∧Stepped w w' base s g n kc (execI ⟨15,a,y,z⟩ pc m):=by
 obtain ⟨hn,hn1,hn2,hmok,hops,hst,hmem,hmap,hcA,hrow,hcn,hcn2,hpc0,hpc1,hsg⟩:=h
 have hls:=hst.lt
 have hlg:=hmem.lt
 have hlq:=hmap.lt
 have hgs:¬ g=s:=fun e=>hsg e.symm
 have HX:=zhd hnx
 have HN:=zhd hn
 have HO:=zhd hmok
 have HOP:=zhd hops
 have HA:=zhd hcA
 have HR:=zhd hrow
 have HCN:=zhd hcn
 have HRT:=zhd hright
 have HF:=zhd hfar
 clear hfar
 clear hnx hn hmok hops hcA hrow hcn hright
 go_enter Tryz.func63,Tryz.ntmps63
 go_wp2_with fail
 refine (next_any s pc 0 (some ⟨g,0,none⟩) n kc A b off c cn cap _ HCN.out hcn2 hpc0 HA.out HOP.out hst HR.out).mono ?_
 rintro e w1 ⟨e1,hx1⟩
 replace e1:e=.returned (.tuple #[.agg (Ins.cells ⟨15,a,y,z⟩),.bool true]):=by rw [e1,HX.out];rfl
 subst e1
 have hI1:=Blk.new w1 77 (Ins.cells ⟨15,a,y,z⟩)
 have x1:=hx1.alloc (.cells (Ins.cells ⟨15,a,y,z⟩) 77)
 have hS1:=Blk.ext hst x1
 have hM1:=hmem.ext x1
 have hQ1:=hmap.ext x1
 have l1:=hx1.size
 clear hst hmem hmap hx1
 go_upto_region 3 with (fail)
 generalize (w1.alloc (.cells (Ins.cells ⟨15,a,y,z⟩) 77))=W1 at hI1 x1 hS1 hM1 hQ1 ⊢
 generalize w1.heap.size=ic at hI1 l1 ⊢
 have hi1:=Blk.has hI1
 have hj1:=Blk.gets hI1
 go_wp2_with fail
 refine (far_any ⟨15,a,y,z⟩ cn s pc 0 g 0 n kc m _ HN.out hn2 HRT.out HO.out hS1 hM1.row).mono ?_
 rintro e w2 ⟨e2,hx2⟩
 replace e2:e=.returned (.int .i64 (p)):=by rw [e2];rw [HF.out]
 subst e2
 have x2:=x1.trans hx2
 have hI2:=Blk.ext hI1 hx2
 have hS2:=Blk.ext hS1 hx2
 have hM2:=hM1.ext hx2
 have hQ2:=hQ1.ext hx2
 clear hI1 hS1 hM1 hQ1 x1 hx2 hi1 hj1
 have hcI:=Blk.cell hI2
 have hcS:=Blk.cell hS2
 have hfS:=Blk.frozen hS2
 have lI:=hI2.lt
 have lS:=hS2.lt
 have lG:=hM2.lt
 have hal:a < m.length:=by have:=HN.out;omega
 have haI:(a:Int) < n:=by omega
 have hpl:p < m.length:=by have:=HN.out;omega
 have hpI:(p:Int) < n:=by omega
 have hcM:=hM2.cell a hal
 have hfM:=hM2.frozen
 obtain ⟨v,hv⟩:∃ v,v=m[p]:=⟨_,rfl⟩
 have Hvr:Hid (i32ok v):=zhd (by rw [hv];exact HO.out _ (List.getElem_mem hpl))
 have HE:Hid (execI ⟨15,a,y,z⟩ pc m=(pc+1,0,m.set a v)):=zhd (by simp [execI,mput,HF.out,mget_in hpl,hv])
 have HV:=zhd hv
 clear hv
 go_upto_region 19 with (fail)
 refine qr3 (fun w3=>Ext w2 w3) [(0,2),(1,2),(2,1),(3,2),(4,2),(5,2),(6,1),(7,2),(8,0)] ?_;refine qrl ?_
 (repeat (first | refine qs3 ?_ | ((apply w3_take);(· exact (Kept.drew (Kept.refl _ _)));(· go_simp);(· (intro w1 hS;have d1:=Blk.cell (Blk.ext hI2 hS);have d2:=(hM2.ext hS).cell p hpl;rw [← HV.out] at d2; go_simp;try with_reducible rfl));refine qnx ?_) | ((apply w3_pass);(· exact (Kept.drew (Kept.refl _ _)));(· go_simp);refine qnx ?_)))
 exact zz24
set_option maxRecDepth 100000 in
theorem st_16 (w:World) (base s g n kc q:Nat) (A:Option Addr) (b off cn cap:Nat) (c:List Ins) (pc:Int) (m:List Int) (h:StepPre w base s g n kc q A b off cn c pc m) (x y z a:Nat) (ha:a < n) (hz:z < n) (hfar:farI ⟨16,x,y,z⟩ m=(a:Int)) (hnx:nextI c pc n=some ⟨16,x,y,z⟩) (hright:rightI ⟨16,x,y,z⟩ cn n=true) :
 Calls Tryz.prog 63 #[.pointer (some ⟨s,0,none⟩),.slice A cn cap,.map (some q)] w fun e w'=>e=.returned (.tuple #[])∧Stepped w w' base s g n kc (execI ⟨16,x,y,z⟩ pc m):=by
 obtain ⟨hn,hn1,hn2,hmok,hops,hst,hmem,hmap,hcA,hrow,hcn,hcn2,hpc0,hpc1,hsg⟩:=h
 have hls:=hst.lt
 have hlg:=hmem.lt
 have hlq:=hmap.lt
 have hgs:¬ g=s:=fun e=>hsg e.symm
 have HX:=zhd hnx
 have HN:=zhd hn
 have HO:=zhd hmok
 have HOP:=zhd hops
 have HA:=zhd hcA
 have HR:=zhd hrow
 have HCN:=zhd hcn
 have HRT:=zhd hright
 have HF:=zhd hfar
 clear hfar
 clear hnx hn hmok hops hcA hrow hcn hright
 go_enter Tryz.func63,Tryz.ntmps63
 go_wp2_with fail
 refine (next_any s pc 0 (some ⟨g,0,none⟩) n kc A b off c cn cap _ HCN.out hcn2 hpc0 HA.out HOP.out hst HR.out).mono ?_
 rintro e w1 ⟨e1,hx1⟩
 replace e1:e=.returned (.tuple #[.agg (Ins.cells ⟨16,x,y,z⟩),.bool true]):=by rw [e1,HX.out];rfl
 subst e1
 have hI1:=Blk.new w1 77 (Ins.cells ⟨16,x,y,z⟩)
 have x1:=hx1.alloc (.cells (Ins.cells ⟨16,x,y,z⟩) 77)
 have hS1:=Blk.ext hst x1
 have hM1:=hmem.ext x1
 have hQ1:=hmap.ext x1
 have l1:=hx1.size
 clear hst hmem hmap hx1
 go_upto_region 3 with (fail)
 generalize (w1.alloc (.cells (Ins.cells ⟨16,x,y,z⟩) 77))=W1 at hI1 x1 hS1 hM1 hQ1 ⊢
 generalize w1.heap.size=ic at hI1 l1 ⊢
 have hi1:=Blk.has hI1
 have hj1:=Blk.gets hI1
 go_wp2_with fail
 refine (far_any ⟨16,x,y,z⟩ cn s pc 0 g 0 n kc m _ HN.out hn2 HRT.out HO.out hS1 hM1.row).mono ?_
 rintro e w2 ⟨e2,hx2⟩
 replace e2:e=.returned (.int .i64 (a)):=by rw [e2];rw [HF.out]
 subst e2
 have x2:=x1.trans hx2
 have hI2:=Blk.ext hI1 hx2
 have hS2:=Blk.ext hS1 hx2
 have hM2:=hM1.ext hx2
 have hQ2:=hQ1.ext hx2
 clear hI1 hS1 hM1 hQ1 x1 hx2 hi1 hj1
 have hcI:=Blk.cell hI2
 have hcS:=Blk.cell hS2
 have hfS:=Blk.frozen hS2
 have lI:=hI2.lt
 have lS:=hS2.lt
 have lG:=hM2.lt
 have hal:a < m.length:=by have:=HN.out;omega
 have haI:(a:Int) < n:=by omega
 have hzl:z < m.length:=by have:=HN.out;omega
 have hzI:(z:Int) < n:=by omega
 have hcM:=hM2.cell a hal
 have hfM:=hM2.frozen
 obtain ⟨v,hv⟩:∃ v,v=m[z]:=⟨_,rfl⟩
 have Hvr:Hid (i32ok v):=zhd (by rw [hv];exact HO.out _ (List.getElem_mem hzl))
 have HE:Hid (execI ⟨16,x,y,z⟩ pc m=(pc+1,0,m.set a v)):=zhd (by simp [execI,mput,HF.out,mget_in hzl,hv])
 have hcZ:=hM2.cell z hzl
 rw [← hv] at hcZ
 have HV:=zhd hv
 clear hv
 go_upto_region 32 with (fail)
 have hS3:=Blk.far hS2 (p:=⟨g,a,none⟩) hsg (.int .i32 (v))
 have hM3:=hM2.set a hal (v)
 have hk3:Kept (fun i=>i=s ∨ i=g) w (w2.setCell ⟨g,a,none⟩ (.int .i32 (v))):=Kept.setCell (Kept.ext x2) _ _ (fun _=>.inr rfl)
 generalize w2.setCell ⟨g,a,none⟩ (.int .i32 v)=W3 at hS3 hM3 hk3 ⊢
 exact zz86
open Go.RowKit
set_option maxRecDepth 100000 in
theorem st_17 (w:World) (base s g n kc q:Nat) (A:Option Addr) (b off cn cap:Nat) (c:List Ins) (pc:Int) (m:List Int) (h:StepPre w base s g n kc q A b off cn c pc m) (a:Nat) (y z:Int) (ha:a < n) (hy1:-2147483648≤y) (hy2:y≤2147483647) (hz1:-2147483648≤z) (hz2:z≤2147483647) (hnx:nextI c pc n=some ⟨17,a,y,z⟩) (hright:rightI ⟨17,a,y,z⟩ cn n=true) :
 Calls Tryz.prog 63 #[.pointer (some ⟨s,0,none⟩),.slice A cn cap,.map (some q)] w fun e w'=>e=.returned (.tuple #[])∧Stepped w w' base s g n kc (execI ⟨17,a,y,z⟩ pc m):=by
 obtain ⟨hn,hn1,hn2,hmok,hops,hst,hmem,hmap,hcA,hrow,hcn,hcn2,hpc0,hpc1,hsg⟩:=h
 have hls:=hst.lt
 have hlg:=hmem.lt
 have hlq:=hmap.lt
 have hgs:¬ g=s:=fun e=>hsg e.symm
 have HX:=zhd hnx
 have HN:=zhd hn
 have HO:=zhd hmok
 have HOP:=zhd hops
 have HA:=zhd hcA
 have HR:=zhd hrow
 have HCN:=zhd hcn
 have HRT:=zhd hright
 clear hnx hn hmok hops hcA hrow hcn hright
 go_enter Tryz.func63,Tryz.ntmps63
 go_wp2_with fail
 refine (next_any s pc 0 (some ⟨g,0,none⟩) n kc A b off c cn cap _ HCN.out hcn2 hpc0 HA.out HOP.out hst HR.out).mono ?_
 rintro e w1 ⟨e1,hx1⟩
 replace e1:e=.returned (.tuple #[.agg (Ins.cells ⟨17,a,y,z⟩),.bool true]):=by rw [e1,HX.out];rfl
 subst e1
 have hI1:=Blk.new w1 77 (Ins.cells ⟨17,a,y,z⟩)
 have x1:=hx1.alloc (.cells (Ins.cells ⟨17,a,y,z⟩) 77)
 have hS1:=Blk.ext hst x1
 have hM1:=hmem.ext x1
 have hQ1:=hmap.ext x1
 have l1:=hx1.size
 clear hst hmem hmap hx1
 go_upto_region 3 with (fail)
 generalize (w1.alloc (.cells (Ins.cells ⟨17,a,y,z⟩) 77))=W1 at hI1 x1 hS1 hM1 hQ1 ⊢
 generalize w1.heap.size=ic at hI1 l1 ⊢
 have hi1:=Blk.has hI1
 have hj1:=Blk.gets hI1
 go_wp2_with fail
 refine (far_any ⟨17,a,y,z⟩ cn s pc 0 g 0 n kc m _ HN.out hn2 HRT.out HO.out hS1 hM1.row).mono ?_
 rintro e w2 ⟨e2,hx2⟩
 replace e2:e=.returned (.int .i64 (-1)):=by rw [e2];rfl
 subst e2
 have x2:=x1.trans hx2
 have hI2:=Blk.ext hI1 hx2
 have hS2:=Blk.ext hS1 hx2
 have hM2:=hM1.ext hx2
 have hQ2:=hQ1.ext hx2
 clear hI1 hS1 hM1 hQ1 x1 hx2 hi1 hj1
 have hcI:=Blk.cell hI2
 have hcS:=Blk.cell hS2
 have hfS:=Blk.frozen hS2
 have lI:=hI2.lt
 have lS:=hS2.lt
 have lG:=hM2.lt
 have hal:a < m.length:=by have:=HN.out;omega
 have haI:(a:Int) < n:=by omega
 have hcM:=hM2.cell a hal
 have hfM:=hM2.frozen
 obtain ⟨v,hv⟩:∃ v,v=m[a]:=⟨_,rfl⟩
 have Hvr:Hid (i32ok v):=zhd (by rw [hv];exact HO.out _ (List.getElem_mem hal))
 have hwy:IntKind.i32.wrap y=y:=by rw [IntKind.wrap_i32];omega
 have hwz:IntKind.i32.wrap z=z:=by rw [IntKind.wrap_i32];omega
 have HE:Hid (execI ⟨17,a,y,z⟩ pc m=(pc+1,0,m.set a (min (max v y) z))):=zhd (by simp [execI,mput,mget_in hal,hv])
 have HV:=zhd hv
 clear hv
 go_upto_region 23 with (fail)
 refine qr3 (fun w3=>Ext w2 w3) [(0,2),(1,2),(2,1),(3,2),(4,2),(5,1),(6,2),(7,1),(8,2),(9,1),(10,1),(11,1),(12,2),(13,1),(14,1),(15,1),(16,2),(17,0)] ?_;refine qrl ?_
 (repeat (first | refine qs3 ?_ | ((apply w3_take);(· exact (Kept.drew (Kept.refl _ _)));(· go_simp);(· (intro w1 hS;have d1:=Blk.cell (Blk.ext hI2 hS);have d2:=(hM2.ext hS).cell a hal;rw [← HV.out] at d2; go_simp;try with_reducible rfl));refine qnx ?_) | ((apply w3_pass);(· exact (Kept.drew (Kept.refl _ _)));(· go_simp);refine qnx ?_)))
 refine qf3 ?_
 have hS3:StAt (w2.setCell ⟨g,a,none⟩ (.int .i32 (min (max v y) z))).drew s 49 pc (some ⟨g,0,none⟩) n kc 0:=Blk.far hS2 (p:=⟨g,a,none⟩) hsg (.int .i32 (min (max v y) z))
 have hM3:MemAt (w2.setCell ⟨g,a,none⟩ (.int .i32 (min (max v y) z))).drew base g n kc (m.set a (min (max v y) z)):=(hM2.set a hal (min (max v y) z)).ext ((Kept.refl _ _).drew)
 have hk3:Kept (fun i=>i=s ∨ i=g) w (w2.setCell ⟨g,a,none⟩ (.int .i32 (min (max v y) z))).drew:=(Kept.setCell (Kept.ext x2) _ _ (fun _=>.inr rfl)).drew
 generalize (w2.setCell ⟨g,a,none⟩ (.int .i32 (min (max v y) z))).drew=W3 at hS3 hM3 hk3 ⊢
 exact zz86
set_option maxRecDepth 100000 in
theorem st_18 (w:World) (base s g n kc q:Nat) (A:Option Addr) (b off cn cap:Nat) (c:List Ins) (pc:Int) (m:List Int) (h:StepPre w base s g n kc q A b off cn c pc m) (a y:Nat) (z:Int) (ha:a < n) (hy:y < n) (_hz1:0≤z) (_hz2:z≤2147483647) (hnx:nextI c pc n=some ⟨18,a,y,z⟩) (hright:rightI ⟨18,a,y,z⟩ cn n=true) :
 Calls Tryz.prog 63 #[.pointer (some ⟨s,0,none⟩),.slice A cn cap,.map (some q)] w fun e w'=>e=.returned (.tuple #[])∧Stepped w w' base s g n kc (execI ⟨18,a,y,z⟩ pc m):=by
 obtain ⟨hn,hn1,hn2,hmok,hops,hst,hmem,hmap,hcA,hrow,hcn,hcn2,hpc0,hpc1,hsg⟩:=h
 have hls:=hst.lt
 have hlg:=hmem.lt
 have hlq:=hmap.lt
 have hgs:¬ g=s:=fun e=>hsg e.symm
 have HX:=zhd hnx
 have HN:=zhd hn
 have HO:=zhd hmok
 have HOP:=zhd hops
 have HA:=zhd hcA
 have HR:=zhd hrow
 have HCN:=zhd hcn
 have HRT:=zhd hright
 clear hnx hn hmok hops hcA hrow hcn hright
 go_enter Tryz.func63,Tryz.ntmps63
 go_wp2_with fail
 refine (next_any s pc 0 (some ⟨g,0,none⟩) n kc A b off c cn cap _ HCN.out hcn2 hpc0 HA.out HOP.out hst HR.out).mono ?_
 rintro e w1 ⟨e1,hx1⟩
 replace e1:e=.returned (.tuple #[.agg (Ins.cells ⟨18,a,y,z⟩),.bool true]):=by rw [e1,HX.out];rfl
 subst e1
 have hI1:=Blk.new w1 77 (Ins.cells ⟨18,a,y,z⟩)
 have x1:=hx1.alloc (.cells (Ins.cells ⟨18,a,y,z⟩) 77)
 have hS1:=Blk.ext hst x1
 have hM1:=hmem.ext x1
 have hQ1:=hmap.ext x1
 have l1:=hx1.size
 clear hst hmem hmap hx1
 go_upto_region 3 with (fail)
 generalize (w1.alloc (.cells (Ins.cells ⟨18,a,y,z⟩) 77))=W1 at hI1 x1 hS1 hM1 hQ1 ⊢
 generalize w1.heap.size=ic at hI1 l1 ⊢
 have hi1:=Blk.has hI1
 have hj1:=Blk.gets hI1
 go_wp2_with fail
 refine (far_any ⟨18,a,y,z⟩ cn s pc 0 g 0 n kc m _ HN.out hn2 HRT.out HO.out hS1 hM1.row).mono ?_
 rintro e w2 ⟨e2,hx2⟩
 replace e2:e=.returned (.int .i64 (-1)):=by rw [e2];rfl
 subst e2
 have x2:=x1.trans hx2
 have hI2:=Blk.ext hI1 hx2
 have hS2:=Blk.ext hS1 hx2
 have hM2:=hM1.ext hx2
 have hQ2:=hQ1.ext hx2
 clear hI1 hS1 hM1 hQ1 x1 hx2 hi1 hj1
 have hcI:=Blk.cell hI2
 have hcS:=Blk.cell hS2
 have hfS:=Blk.frozen hS2
 have lI:=hI2.lt
 have lS:=hS2.lt
 have lG:=hM2.lt
 have hal:a < m.length:=by have:=HN.out;omega
 have haI:(a:Int) < n:=by omega
 have hyl:y < m.length:=by have:=HN.out;omega
 have hyI:(y:Int) < n:=by omega
 have hcM:=hM2.cell a hal
 have hfM:=hM2.frozen
 obtain ⟨v,hv⟩:∃ v,v=m[y]:=⟨_,rfl⟩
 have Hvr:Hid (i32ok v):=zhd (by rw [hv];exact HO.out _ (List.getElem_mem hyl))
 have HE:Hid (execI ⟨18,a,y,z⟩ pc m=(pc+1,0,m.set a (truthI (decide (0≤v) && decide (v < z))))):=zhd (by simp [execI,mput,mget_in hyl,hv])
 have HV:=zhd hv
 obtain ⟨hv1,hv2⟩:-2147483648≤v∧v≤2147483647:=Hvr.out
 have hwv:IntKind.i64.wrap v=v:=by rw [IntKind.wrap_i64];omega
 clear hv
 go_upto_region 25 with (fail)
 by_cases hv0:0≤v
 ·have b0:decide (0≤v)=true:=by simpa using hv0
  refine qr3 (fun w3=>Ext w2 w3) [(0,2),(1,2),(2,1),(3,2),(4,2),(5,1),(6,2),(7,1),(8,2),(9,2),(10,2),(11,2),(12,1),(13,2),(14,1),(15,1),(16,2),(17,1),(18,2),(19,2),(20,0),(21,2),(22,0)] ?_;refine qrl ?_
  (repeat (first | refine qs3 ?_ | ((apply w3_take);(· exact (Kept.drew (Kept.refl _ _)));(· go_simp);(· (intro w1 hS;have d1:=Blk.cell (Blk.ext hI2 hS);have d2:=(hM2.ext hS).cell y hyl;rw [← HV.out] at d2; go_simp;try with_reducible rfl));refine qnx ?_) | ((apply w3_pass);(· exact (Kept.drew (Kept.refl _ _)));(· go_simp);refine qnx ?_)))
  (refine w3_act (fun K hK=>?_);go_simp)
  go_wp2_with fail
  refine (truth_any _ _).mono ?_
  rintro e w3 ⟨rfl,rfl⟩
  refine hK.out _ _ (fun h=>h) ?_
  clear hK K
  refine qf3 ?_
  have ev:truthI (decide (v < z))=truthI (decide (0≤v) && decide (v < z)):=by rw [b0];rfl
  exact zz19
 ·have b0:decide (0≤v)=false:=by simpa using hv0
  refine qr3 (fun w3=>Ext w2 w3) [(0,2),(1,2),(2,1),(3,2),(4,2),(5,1),(6,2),(7,1),(8,2),(9,2),(10,2),(11,2),(12,1),(13,2),(14,1),(15,1),(16,2),(17,1),(18,2),(19,2),(20,0),(21,2),(22,0)] ?_;refine qrl ?_
  (repeat (first | refine qs3 ?_ | ((apply w3_take);(· exact (Kept.drew (Kept.refl _ _)));(· go_simp);(· (intro w1 hS;have d1:=Blk.cell (Blk.ext hI2 hS);have d2:=(hM2.ext hS).cell y hyl;rw [← HV.out] at d2; go_simp;try with_reducible rfl));refine qnx ?_) | ((apply w3_pass);(· exact (Kept.drew (Kept.refl _ _)));(· go_simp);refine qnx ?_)))
  (refine w3_act (fun K hK=>?_);go_simp)
  go_wp2_with fail
  refine (truth_any _ _).mono ?_
  rintro e w3 ⟨rfl,rfl⟩
  refine hK.out _ _ (fun h=>h) ?_
  clear hK K
  refine qf3 ?_
  have ev:truthI false=truthI (decide (0≤v) && decide (v < z)):=by rw [b0];rfl
  exact zz19
end Go.Proofs.YtbfbabbcdochjaaGreatDoor.Mc
