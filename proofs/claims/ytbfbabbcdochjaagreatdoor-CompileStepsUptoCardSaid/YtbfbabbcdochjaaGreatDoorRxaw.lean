/- Several texts joined: Da, Db. -/
import Derived.Test.YtbfbabbcdochjaaGreatDoorRxpk
import Derived.Test.YtbfbabbcdochjaaGreatDoorRxav
set_option maxHeartbeats 4000000
namespace Go.Proofs.YtbfbabbcdochjaaGreatDoor
open Go.RowKit So Mc
theorem aggMaker:aggT Tryz.prog 160=true:=by kernel_rfl
theorem sizeMaker:sizeT Tryz.prog 160=some 17:=by kernel_rfl
attribute [go_sem] aggMaker sizeMaker
abbrev mkCells (A:Option Addr) (n cp:Nat) (c:Pc) (b:Int) (wm:Nat) (f:Int) (sm em:Nat):Array Value :=
 #[.slice A n cp,.string c.name,.int .i64 c.seats,.slice c.stakes.A c.stakes.n c.stakes.c,.slice c.vars.A c.vars.n c.vars.c,.slice c.start.A c.start.n c.start.c,.slice c.turn.A c.turn.n c.turn.c,.slice c.params.A c.params.n c.params.c,.slice c.play.A c.play.n c.play.c,.string c.silent,.slice c.quiet.A c.quiet.n c.quiet.c,.slice c.pays.A c.pays.n c.pays.c,.int .i64 b,.map (some wm),.int .i64 f,.map (some sm),.map (some em)]
attribute [go_sem] mkCells
/-! ### the frame: what lies below B stays, and so do blocks of other types than a maker's, an instruction's, a map's -/
def okTy (wm i:Nat) (o:Option Obj):Prop:=(∃ cur t fr,o=some (.cells cur t fr)∧¬ t=160∧¬ t=77) ∨ (¬ i=wm∧∃ es clock,o=some (.map es clock))
def KT (B wm:Nat) (w w':World):Prop:=Kept (fun i=>B≤i∧¬ okTy wm i w.heap[i]?) w w'
section
variable {B wm:Nat} {w w' w'':World}
theorem KT.refl (B wm:Nat) (w:World):KT B wm w w:=kR _ w
theorem KT.ext (h:Ext w w'):KT B wm w w':=Kept.ext h
theorem KT.size (h:KT B wm w w'):w.heap.size≤w'.heap.size:=Kept.size h
theorem KT.trans (h:KT B wm w w') (h':KT B wm w' w''):KT B wm w w'':=by
 refine Kept.trans' h h' fun i hi q=>?_
 refine ⟨q.1,fun hk=>q.2 ?_⟩
 rw [Kept.block h i hi (fun z=>z.2 hk)]
 exact hk
theorem KT.below (h:KT B wm w w'):Kept (fun i=>B≤i) w w':=Kept.mono h fun _ _ q=>q.1
theorem KT.block (h:KT B wm w w') {g:Nat} {t:TypeId} {cs:Array Value} (hb:Blk w g t cs) (h1:¬ t=160) (h2:¬ t=77):Blk w' g t cs:=(Kept.block h g hb.lt (fun q=>q.2 (.inl ⟨_,_,_,hb,h1,h2⟩))).trans hb
theorem KT.map (h:KT B wm w w') {g:Nat} {f:Int→Option Value} (hm:IMap w g f) (hg:¬ g=wm):IMap w' g f:=by
 have hl:=hm.lt
 obtain ⟨es,clock,hb,r⟩:=hm
 exact ⟨es,clock,(Kept.block h g hl (fun q=>q.2 (.inr ⟨hg,es,clock,hb⟩))).trans hb,r⟩
theorem KT.of_mb {mb:Nat} {cs:Array Value} (hb:Blk w mb 160 cs) (hB:B≤mb) (hk:Kept (·=mb) w w'):KT B wm w w' :=
 Kept.mono hk fun i _ q=>by
  subst q
  refine ⟨hB,?_⟩
  rintro (⟨cur,t,fr,e,h1,_⟩ | ⟨_,es,clock,e⟩) <;> rw [show w.heap[i]?=_ from hb] at e
  ·injection e with e
   injection e with _ e _
   exact h1 e.symm
  ·cases e
theorem KT.of_own {v:Value} {n:Nat} {xs:List Value} (h:w.ownsRow B 77 4 v n xs) (hk:Kept (fun i=>v.ownBlock=some i) w w'):KT B wm w w' :=
 Kept.mono hk fun i _ q=>by
  refine ⟨(h.lt i q).1,?_⟩
  rintro (⟨cur,t,fr,e,_,h2⟩ | ⟨_,es,clock,e⟩)
  ·exact own_other h (fun z=>h2 z.symm) i q cur fr e
  ·obtain ⟨cur,e'⟩:=own_ty h q
   rw [e] at e'
   cases e'
theorem KT.of_map {es:Array MapEntry} {clock:Nat} (hb:w.heap[wm]?=some (.map es clock)) (hB:B≤wm) (hk:Kept (·=wm) w w'):KT B wm w w' :=
 Kept.mono hk fun i _ q=>by
  subst q
  refine ⟨hB,?_⟩
  rintro (⟨cur,t,fr,e,_,_⟩ | ⟨h,_⟩)
  ·rw [hb] at e
   cases e
  ·exact h rfl
end
/-! ### the tables -/
def exprF (op:Int):Option Value :=
 if op=0 then some (.func (.func 138) #[] #[]) else if op=1 then some (.func (.func 139) #[] #[])
 else if op=2 then some (.func (.func 140) #[] #[]) else if op=3 then some (.func (.func 141) #[] #[])
 else if op=4 then some (.func (.func 142) #[] #[]) else if op=14 ∨ op=15 then some (.func (.func 143) #[] #[]) else none
def stmtF (k:Int):Option Value :=
 if k=0 then some (.func (.func 128) #[] #[]) else if k=1 then some (.func (.func 129) #[] #[])
 else if k=2 then some (.func (.func 130) #[] #[]) else if k=3 then some (.func (.func 131) #[] #[])
 else if k=4 then some (.func (.func 132) #[] #[]) else if k=5 then some (.func (.func 133) #[] #[])
 else if k=6 then some (.func (.func 134) #[] #[]) else if k=7 then some (.func (.func 135) #[] #[])
 else if k=8 then some (.func (.func 136) #[] #[]) else if k=9 then some (.func (.func 137) #[] #[]) else none
structure MS (w:World) (B N mb:Nat) (p:Pr) (c:Pc) (b:Int) (wm sm em f:Nat) (W:Wd) (L:List Ins):Prop where
 blk:∃ A n cp,Blk w mb 160 (mkCells A n cp c b wm f sm em)∧w.ownsRow B 77 4 (.slice A n cp) n (inss L)
 prog:PAt w N c p
 words:∃ F,SMap w wm F∧∀ s,(F s).getD (.int .i64 0)=.int .i64 (W s)
 tabS:IMap w sm stmtF
 tabE:IMap w em exprF
 hN:N≤B
 hB:B≤w.heap.size
 mbB:B≤mb
 wmB:B≤wm
 okL:∀ i ∈ L,i.ok
section
variable {w w':World} {B N mb wm sm em f:Nat} {p:Pr} {c:Pc} {b:Int} {W:Wd} {L:List Ins}
theorem MS.ext (h:MS w B N mb p c b wm sm em f W L) (hx:Ext w w'):MS w' B N mb p c b wm sm em f W L:=by
 obtain ⟨A,n,cp,h1,h2⟩:=h.blk
 obtain ⟨F,h3,h4⟩:=h.words
 exact ⟨⟨A,n,cp,bX h1 hx,own_ext h2 hx⟩,h.prog.kept hx (Nat.le_trans h.hN h.hB) (fun _ q=>q.elim),⟨F,h3.ext hx,h4⟩,h.tabS.ext hx,h.tabE.ext hx,h.hN,Nat.le_trans h.hB hx.size,h.mbB,h.wmB,h.okL⟩
theorem MS.len (_h:MS w B N mb p c b wm sm em f W L) {A:Option Addr} {n cp:Nat} (ho:w.ownsRow B 77 4 (.slice A n cp) n (inss L)):n=L.length:=by
 have:=ho.1
 rw [inss_length] at this
 omega
end
theorem infoI4:(Tryz.prog.info? 77).map (fun i=>(i.zero,i.size,i.bytes))=some (some (.agg #[.int .i64 0,.int .i64 0,.int .i64 0,.int .i64 0]),4,32):=by kernel_rfl
theorem inss_flatL (l:List Ins):flatL (inss l)=true:=by
 induction l with
 | nil=>rfl
 | cons d l ih=>show flatL (d.cells.toList ++ inss l)=true;exact ih
theorem appI4 (w:World) (base:Nat) (v:Value) (n:Nat) (xs:List Ins) (hown:w.ownsRow base 77 4 v n (inss xs)) (b off m c:Nat) (l:List Ins) (hm:m=l.length) (hr:Row w b off (inss l)) (hn:n+m≤100000) (hbase:base≤w.heap.size) :
 ∃ v' w',(Builtin.append_ #[71,71] 71 #[v,.slice (some ⟨b,off,none⟩) m c]).run Tryz.prog w=.ok v' w'∧w'.ownsRow base 77 4 v' (n+m) (inss (xs ++ l))∧Kept (fun i=>v.ownBlock=some i) w w':=by
 obtain ⟨i,hi,hz,h1,h2⟩:=info_parts infoI4
 have:=app_some (P:=Tryz.prog) Tryz.underlying71 hi hz h1 h2 zb87 zb84 w base v n (inss xs) hown b off m c (inss l) (by rw [inss_length,hm]) hr (inss_flatL l) (by unfold maxLen;omega) zb85 hbase
 rw [show inss xs ++ inss l=inss (xs ++ l) by simp [inss]] at this
 exact this
theorem own_sliceI {w:World} {base:Nat} {v:Value} {n:Nat} {l:List Ins} (h:w.ownsRow base 77 4 v n (inss l)):∃ A c,v=.slice A n c:=by
 rcases h.2 with ⟨hv,h0⟩ | ⟨g,c,cur,hv,_⟩
 ·exact ⟨none,0,by rw [hv,h0]⟩
 ·exact ⟨_,c,hv⟩
set_option maxRecDepth 100000 in
theorem free_any (B N mb wm sm em f:Nat) (p:Pr) (c:Pc) (b:Int) (W:Wd) (L:List Ins) (i:Int) (w:World) (h:MS w B N mb p c b wm sm em f W L) (hb:0≤b∧b≤10000) (hi:0≤i∧i≤10000) :
 Calls Tryz.prog 164 #[.pointer (some ⟨mb,0,none⟩),.int .i64 i] w fun e w'=>e=.returned (.int .i64 (fr b i))∧w=w':=by
 obtain ⟨A,n,cp,h1,-⟩:=h.blk
 have i1:=bC h1
 have i2:=h1.lt
 clear h h1
 go_enter Tryz.func164,Tryz.ntmps164
 go_wp2_with fail
 go_ret
 exact ⟨rfl,rfl⟩
theorem MS.grow {w w1:World} {B N mb wm sm em f:Nat} {p:Pr} {c:Pc} {b:Int} {W:Wd} {L L':List Ins} {A A':Option Addr} {n cp n' cp':Nat} (h:MS w B N mb p c b wm sm em f W L) (hb:Blk w mb 160 (mkCells A n cp c b wm f sm em)) (ho:w.ownsRow B 77 4 (.slice A n cp) n (inss L))
 (hk:Kept (fun i=>(Value.slice A n cp).ownBlock=some i) w w1) (ho':w1.ownsRow B 77 4 (.slice A' n' cp') n' (inss L')) (hok:∀ i ∈ L',i.ok) :
 MS (w1.setCell ⟨mb,0,none⟩ (.slice A' n' cp')) B N mb p c b wm sm em f W L'∧KT B wm w (w1.setCell ⟨mb,0,none⟩ (.slice A' n' cp')):=by
 have hmb:¬ (Value.slice A n cp).ownBlock=some mb:=fun q=>own_other ho (E':=160) zb84 mb q _ _ hb
 have hb1:=bK hb hk hmb
 have hbS:=Blk.set_ hb1 0 (.slice A' n' cp')
 have kS:Kept (·=mb) w1 (w1.setCell ⟨mb,0,none⟩ (.slice A' n' cp')):=Kept.setCell (kR _ w1) _ _ (fun _=>rfl)
 have hmap:∀ g es clock,w.heap[g]?=some (.map es clock)→¬ (Value.slice A n cp).ownBlock=some g:=fun g es clock e q=>by
  obtain ⟨cur,e'⟩:=own_ty ho q
  rw [e] at e'
  cases e'
 have hmm:∀ g es clock,w.heap[g]?=some (.map es clock)→¬ g=mb:=fun g es clock e q=>by
  subst q
  rw [show w.heap[g]?=_ from hb] at e
  cases e
 have k2:KT B wm w w1:=KT.of_own ho hk
 have k3:KT B wm w1 (w1.setCell ⟨mb,0,none⟩ (.slice A' n' cp')):=KT.of_mb hb1 h.mbB kS
 have kk:=k2.trans k3
 refine ⟨⟨⟨A',n',cp',?_,own_kept ho' kS (fun g hg q=>by subst q;exact own_other ho' (E':=160) zb84 g hg _ _ hb1)⟩,h.prog.kept kk.below (Nat.le_trans h.hN h.hB) (fun i q=>Nat.le_trans h.hN q),?_,?_,?_,h.hN,Nat.le_trans h.hB kk.size,h.mbB,h.wmB,hok⟩,kk⟩
 ·simpa using hbS
 ·obtain ⟨F,h3,h4⟩:=h.words
  obtain ⟨es,clock,he,r⟩:=h3
  exact ⟨F,(SMap.kept (f:=F) ⟨es,clock,he,r⟩ hk (hmap _ _ _ he)).kept kS (hmm _ _ _ he),h4⟩
 ·obtain ⟨es,clock,he,r⟩:=h.tabS
  exact (IMap.kept (f:=stmtF) ⟨es,clock,he,r⟩ hk (hmap _ _ _ he)).kept kS (hmm _ _ _ he)
 ·obtain ⟨es,clock,he,r⟩:=h.tabE
  exact (IMap.kept (f:=exprF) ⟨es,clock,he,r⟩ hk (hmap _ _ _ he)).kept kS (hmm _ _ _ he)
set_option maxRecDepth 100000 in
theorem put_any (B N mb wm sm em f:Nat) (p:Pr) (c:Pc) (b:Int) (W:Wd) (L:List Ins) (x:Ins) (hx:x.ok) (hL:L.length≤5000) (w:World) (h:MS w B N mb p c b wm sm em f W L) :
 Calls Tryz.prog 86 #[.pointer (some ⟨mb,0,none⟩),.int .i64 x.op,.int .i64 x.a,.int .i64 x.b,.int .i64 x.c] w fun e w'=>e=.returned (.int .i64 L.length)∧MS w' B N mb p c b wm sm em f W (L ++ [x])∧KT B wm w w':=by
 have HH:=J h
 obtain ⟨A,n,cp,h1,h2⟩:=h.blk
 have hn:=h.len h2
 have y1:Ext w (w.alloc (.cells x.cells 77)):=(kR _ w).alloc _
 obtain ⟨v',w',hr,ho,hk⟩:=appI4 (w.alloc (.cells x.cells 77)) B _ n L (own_ext h2 y1) w.heap.size 0 1 1 [x] rfl (by simpa [inss] using Row.of_blk (bN w 77 x.cells)) zb85 (Nat.le_trans h.hB y1.size)
 obtain ⟨A',cp',rfl⟩:=own_sliceI ho
 have hk':Kept (fun i=>(Value.slice A n cp).ownBlock=some i) w w':=(Kept.ext y1).trans hk
 obtain ⟨hMS,hKT⟩:=h.grow h1 h2 hk' ho (fun i hi=>by
  rcases List.mem_append.1 hi with q | q
  ·exact h.okL i q
  ·simp at q;subst q;exact hx)
 have hmb:¬ (Value.slice A n cp).ownBlock=some mb:=fun q=>own_other h2 (E':=160) zb84 mb q _ _ h1
 have hb1:=bK h1 hk' hmb
 have i1:=bC h1
 have i2:=h1.lt
 have i3:=hb1.lt
 have i4:=Blk.frozen hb1
 have j1:=bC (Blk.set_ hb1 0 (.slice A' (n+1) cp'))
 have HMS:=J hMS
 have HKT:=J hKT
 have HL:=J hn
 have HB1:=J hb1
 clear h h2 ho hk hk' hmb hMS hKT HH hb1 h1 hn
 go_enter Tryz.func86,Tryz.ntmps86
 go_upto_region 1 with (fail)
 go_step
 iterate 11 refine qls ?_
 refine wpList_app rfl (.tmp 15) (.tmp 21) 71 rfl rfl rfl rfl hr ?_
 clear hr i1
 have i1:=bC HB1.out
 have hnb:n≤5000:=by have:=HL.out;omega
 go_wp2_with fail
 go_ret
 refine ⟨?_,HMS.out,HKT.out⟩
 rw [← HL.out]
 rfl
def goalL (L:List Ins) (j:Nat) (v:Int):List Ins:=L.set j ⟨(L.getD j ⟨0,0,0,0⟩).op,v,(L.getD j ⟨0,0,0,0⟩).b,(L.getD j ⟨0,0,0,0⟩).c⟩
theorem inss_set:∀ (L:List Ins) (j:Nat) (v:Int),j < L.length→(inss L).set (j * 4+1) (.int .i64 v)=inss (goalL L j v)
 | [],_,_,h=>by simp at h
 | x :: L,0,v,_=>by simp [goalL,inss]
 | x :: L,j+1,v,h=>by
  have ih:=inss_set L j v (by simpa using h)
  have e:inss (goalL (x :: L) (j+1) v)=x.cells.toList ++ inss (goalL L j v):=by simp [goalL,inss]
  rw [e,← ih,show (j+1) * 4+1=4+(j * 4+1) by omega]
  show (x.cells.toList ++ inss L).set (4+(j * 4+1)) _=_
  rw [List.set_append_right _ _ zb86]
  congr 2
  simp
theorem own_goal {w:World} {base g n cp:Nat} {L:List Ins} (h:w.ownsRow base 77 4 (.slice (some ⟨g,0,none⟩) n cp) n (inss L)) (hn:n=L.length) (j:Nat) (hj:j < n) (v:Int) :
 (w.setCell ⟨g,j * 4+1,none⟩ (.int .i64 v)).ownsRow base 77 4 (.slice (some ⟨g,0,none⟩) n cp) n (inss (goalL L j v)):=by
 rcases h.2 with ⟨hv,h0⟩ | ⟨g',c',cur,hv,hb,hc,hnc,hcm,hcs,htk⟩
 ·omega
 ·obtain ⟨rfl,rfl⟩:g=g'∧cp=c':=by simpa using hv
  refine ⟨by rw [inss_length];simp [goalL,hn],.inr ⟨g,cp,cur.setIfInBounds (j * 4+1) (.int .i64 v),rfl,hb,?_,hnc,hcm,by simpa using hcs,?_⟩⟩
  ·simp [World.setCell,Array.getElem?_modify,hc]
  ·rw [Array.toList_setIfInBounds,List.take_set,htk,inss_set _ _ _ zb85]
theorem own_someI {w:World} {base:Nat} {A:Option Addr} {n cp:Nat} {L:List Ins} (h:w.ownsRow base 77 4 (.slice A n cp) n (inss L)) (hn:0 < n):∃ g,A=some ⟨g,0,none⟩∧base≤g∧g < w.heap.size∧(∀ k,w.frozen? ⟨g,k,none⟩=false)∧Row w g 0 (inss L):=by
 rcases h.2 with ⟨hv,h0⟩ | ⟨g,c,cur,hv,hb,hc,hnc,hcm,hcs,htk⟩
 ·omega
 ·refine ⟨g,by injection hv,hb,(Array.getElem?_eq_some_iff.1 hc).1,fun k=>by simp [World.frozen?,hc],?_⟩
  have hl:=h.1
  refine ⟨?_,?_,(Array.getElem?_eq_some_iff.1 hc).1⟩
  ·unfold Proofs.YtbfbabbcdochjaaGreatDoor.has;rw [hc,hl];simp;rw [hcs];exact Nat.mul_le_mul_right 4 hnc
  ·unfold gets;rw [hc,hl];simp only [List.drop_zero];rw [htk]
theorem goalL_ok {L:List Ins} {j:Nat} {v:Int} (h:∀ i ∈ L,i.ok) (hj:j < L.length) (hv:i64ok v):∀ i ∈ goalL L j v,i.ok:=fun i hi=>by
 rcases List.mem_or_eq_of_mem_set hi with q | q
 ·exact h i q
 ·have:=h _ (List.getElem_mem hj)
  subst q
  simp only [List.getD_eq_getElem?_getD,List.getElem?_eq_getElem hj,Option.getD_some]
  exact ⟨this.op,hv,this.b,this.c⟩
theorem MS.inplace {w w1:World} {B N mb wm sm em f:Nat} {p:Pr} {c:Pc} {b:Int} {W:Wd} {L L':List Ins} {A:Option Addr} {n cp:Nat} (h:MS w B N mb p c b wm sm em f W L) (hb:Blk w mb 160 (mkCells A n cp c b wm f sm em)) (ho:w.ownsRow B 77 4 (.slice A n cp) n (inss L))
 (hk:Kept (fun i=>(Value.slice A n cp).ownBlock=some i) w w1) (ho':w1.ownsRow B 77 4 (.slice A n cp) n (inss L')) (hok:∀ i ∈ L',i.ok) :
 MS w1 B N mb p c b wm sm em f W L'∧KT B wm w w1:=by
 have hmb:¬ (Value.slice A n cp).ownBlock=some mb:=fun q=>own_other ho (E':=160) zb84 mb q _ _ hb
 have hb1:=bK hb hk hmb
 have hmap:∀ g es clock,w.heap[g]?=some (.map es clock)→¬ (Value.slice A n cp).ownBlock=some g:=fun g es clock e q=>by
  obtain ⟨cur,e'⟩:=own_ty ho q
  rw [e] at e'
  cases e'
 have kk:KT B wm w w1:=KT.of_own ho hk
 refine ⟨⟨⟨A,n,cp,hb1,ho'⟩,h.prog.kept kk.below (Nat.le_trans h.hN h.hB) (fun i q=>Nat.le_trans h.hN q),?_,?_,?_,h.hN,Nat.le_trans h.hB kk.size,h.mbB,h.wmB,hok⟩,kk⟩
 ·obtain ⟨F,h3,h4⟩:=h.words
  obtain ⟨es,clock,he,r⟩:=h3
  exact ⟨F,SMap.kept (f:=F) ⟨es,clock,he,r⟩ hk (hmap _ _ _ he),h4⟩
 ·obtain ⟨es,clock,he,r⟩:=h.tabS
  exact IMap.kept (f:=stmtF) ⟨es,clock,he,r⟩ hk (hmap _ _ _ he)
 ·obtain ⟨es,clock,he,r⟩:=h.tabE
  exact IMap.kept (f:=exprF) ⟨es,clock,he,r⟩ hk (hmap _ _ _ he)
theorem MS.drew {w:World} {B N mb wm sm em f:Nat} {p:Pr} {c:Pc} {b:Int} {W:Wd} {L:List Ins} (h:MS w B N mb p c b wm sm em f W L):MS w.drew B N mb p c b wm sm em f W L:=h.ext (kR _ w).drew
set_option maxRecDepth 100000 in
theorem here_any (B N mb wm sm em f:Nat) (p:Pr) (c:Pc) (b:Int) (W:Wd) (L:List Ins) (j:Nat) (hj:j < L.length) (hL:L.length≤5000) (w:World) (h:MS w B N mb p c b wm sm em f W L) :
 Calls Tryz.prog 165 #[.pointer (some ⟨mb,0,none⟩),.int .i64 j] w fun e w'=>e=.returned (.tuple #[])∧MS w' B N mb p c b wm sm em f W (goalL L j L.length)∧KT B wm w w':=by
 obtain ⟨A,n,cp,h1,h2⟩:=h.blk
 have hn:=h.len h2
 obtain ⟨g,rfl,hgB,hgl,hgf,hrow⟩:=own_someI h2 zb85
 have hne:¬ mb=g:=fun q=>own_other h2 (E':=160) zb84 g rfl _ _ (by rw [← q];exact h1)
 have HNE:=J hne
 have hog:=own_goal h2 hn j zb85 L.length
 have hkk:Kept (fun i=>(Value.slice (some ⟨g,0,none⟩) n cp).ownBlock=some i) w (w.setCell ⟨g,j * 4+1,none⟩ (.int .i64 L.length)):=Kept.setCell (kR _ _) _ _ (fun _=>rfl)
 obtain ⟨hMS,hKT⟩:=h.inplace h1 h2 hkk hog (goalL_ok h.okL hj zb74)
 have HMS:=J hMS.drew
 have HKT:=J (hKT.trans (KT.ext (kR (fun _=>False) (w.setCell ⟨g,j * 4+1,none⟩ (.int .i64 L.length))).drew))
 have H1:=J h1
 have HN:=J hn
 have hjn:j < n:=by omega
 have hjI:(j:Int) < n:=by omega
 have hj0:(0:Int)≤j:=by omega
 have hnb:n≤5000:=by omega
 have hgd:w.drew.frozen? ⟨g,j * 4+1,none⟩=false:=hgf _
 have hgl':g < w.drew.heap.size:=hgl
 obtain ⟨v0,hv0⟩:∃ v0,w.cell? ⟨g,j * 4+1,none⟩=some v0:=by
  have hl:j * 4+1 < (inss L).length:=by rw [inss_length];omega
  have:=hrow.cell (j * 4+1) hl
  rw [Nat.zero_add,List.getElem?_eq_getElem hl] at this
  exact ⟨_,this⟩
 clear h h2 hMS hKT hkk hog hrow h1 hn hj hL hne
 go_enter Tryz.func165,Tryz.ntmps165
 go_upto_region 0 with (fail)
 refine qr3 (fun w2=>Kept (·=g) w w2) [(0,2),(1,2),(2,2),(3,1),(4,2),(5,2),(6,2),(7,2),(8,1),(9,2),(10,2),(11,2),(12,0)] ?_;refine qrl ?_
 (repeat first|refine qs3 ?_|refine qt3 (Kept.drew (kR _ _)) (by intro w1 hS;have d1:=bC (bK H1.out hS HNE.out);have d2:=(bK H1.out hS HNE.out).lt;exact zgo) ?_|refine qp3 (Kept.drew (kR _ _)) ?_)
 (refine w3_act (fun K hK=>?_);go_simp)
 refine hK.out _ _ (fun _=>(Kept.setCell (S:=(·=g)) (kR _ w) ⟨g,j * 4+1,none⟩ (.int .i64 n) (fun _=>rfl)).drew) ?_
 clear hK K
 refine qf3 ?_
 go_wp2_with fail
 go_end0
 have hm:=HMS.out
 have hkt:=HKT.out
 have e1:=HN.out
 rw [← e1] at hm hkt ⊢
 exact ⟨rfl,hm,hkt⟩
open Go.RowKit So Mc
def ath:EF→Nat→Option (Int × Int × Str × EF)
 | .nil,_=>none
 | .cons op n s k _,0=>some (op,n,s,k)
 | .cons _ _ _ _ r,j+1=>ath r j
theorem ath_some:∀ (F:EF) (j:Nat),j < F.len→∃ op n s K,ath F j=some (op,n,s,K)
 | .nil,_,h=>by simp [EF.len] at h
 | .cons op n s k _,0,_=>⟨op,n,s,k,rfl⟩
 | .cons _ _ _ _ r,j+1,h=>ath_some r j (by simpa [EF.len] using h)
theorem ath_code (k:Mk) (W:Wd) (tw:Int):∀ (F:EF) (j:Nat) {op n:Int} {s:Str} {K:EF},ath F j=some (op,n,s,K)→cE k W F j tw=cE k W (.cons op n s K .nil) 0 tw
 | .nil,_,_,_,_,_,h=>by simp [ath] at h
 | .cons op n s k _,0,_,_,_,_,h=>by
  simp only [ath,Option.some.injEq,Prod.mk.injEq] at h
  obtain ⟨rfl,rfl,rfl,rfl⟩:=h
  rw [cE,cE]
 | .cons _ _ _ _ r,j+1,_,_,_,_,h=>by rw [cE];exact ath_code k W tw r j h
theorem ath_chk {κ:Kn}:∀ {F:EF} {j:Nat} {op n:Int} {s:Str} {K:EF},ath F j=some (op,n,s,K)→chkE κ F=none→head1 κ op n s K.len=none∧chkE κ K=none∧1+dp K≤dp F
 | .nil,_,_,_,_,_,h,_=>by simp [ath] at h
 | .cons op n s k _,0,_,_,_,_,h,hc=>by
  simp only [ath,Option.some.injEq,Prod.mk.injEq] at h
  obtain ⟨rfl,rfl,rfl,rfl⟩:=h
  rw [chkE,ored_eq_none,ored_eq_none] at hc
  exact ⟨hc.1.1,hc.1.2,by simp only [dp];omega⟩
 | .cons _ _ _ _ r,j+1,_,_,_,_,h,hc=>by
  rw [chkE,ored_eq_none] at hc
  obtain ⟨a,b,c⟩:=ath_chk (F:=r) (j:=j) h hc.2
  exact ⟨a,b,by simp only [dp];omega⟩
theorem ath_cells {w:World} {N:Nat}:∀ {F:EF} {j:Nat} {op n:Int} {s:Str} {K:EF} {b off:Nat},ath F j=some (op,n,s,K)→EFAt w N F b off →
 b < N∧i64ok op∧i64ok n∧s.size≤maxLen∧∃ A cap,Proofs.YtbfbabbcdochjaaGreatDoor.has w b (off+j * 4) 4=true∧gets w b (off+j * 4) 4=ecells op n s A K.len cap∧ESl w N A K.len K
 | .nil,_,_,_,_,_,_,_,h,_=>by simp [ath] at h
 | .cons op n s k _,0,_,_,_,_,b,off,h,hE=>by
  simp only [ath,Option.some.injEq,Prod.mk.injEq] at h
  obtain ⟨rfl,rfl,rfl,rfl⟩:=h
  obtain ⟨hb,h1,h2,h3,⟨A,cap,b',off',hh,hg,hl,hA,hk⟩,_⟩:=hE
  exact ⟨hb,h1,h2,h3,A,cap,by simpa using hh,by simpa using hg,rfl,hl,b',off',hA,hk⟩
 | .cons _ _ _ _ r,j+1,_,_,_,_,b,off,h,hE=>by
  obtain ⟨a1,a2,a3,a4,A,cap,a5,a6,a7⟩:=ath_cells (F:=r) (j:=j) h hE.2.2.2.2.2
  refine ⟨a1,a2,a3,a4,A,cap,?_,?_,a7⟩
  ·rw [show off+(j+1) * 4=off+4+j * 4 by omega];exact a5
  ·rw [show off+(j+1) * 4=off+4+j * 4 by omega];exact a6
structure Mst where (B N mb:Nat) (p:Pr) (c:Pc) (b:Int) (wm sm em:Nat)
abbrev Mst.k (x:Mst):Mk:=⟨x.p.vars,x.p.seats,x.b⟩
abbrev Mst.at (x:Mst) (w:World) (f:Nat) (W:Wd) (L:List Ins):Prop:=MS w x.B x.N x.mb x.p x.c x.b x.wm x.sm x.em f W L
structure Mok (x:Mst) (W:Wd):Prop where
 b0:0≤x.b
 b1:x.b≤100
 W0:∀ s,0≤W s
 W1:∀ s,W s≤1000
theorem i64_small {n:Int} (h:-100000≤n∧n≤100000):i64ok n:=by unfold i64ok;omega
theorem fr_ok {b i:Int} (h0:0≤b) (h1:b≤100) (i0:0≤i) (i1:i≤200):i64ok (fr b i):=by unfold fr i64ok;omega
structure Ex (w:World) (N:Nat) (κ:Kn) (op n:Int) (s:Str) (A:Option Addr) (F:EF) (tw:Int):Prop where
 op_:i64ok op
 n_:i64ok n
 s_:s.size≤maxLen
 kids:ESl w N A F.len F
 head:head1 κ op n s F.len=none
 chk:chkE κ F=none
 t0:0≤tw
 t1:tw+1+dp F≤100
theorem Ex.kt {w w':World} {B wm N:Nat} {κ:Kn} {op n:Int} {s:Str} {A:Option Addr} {F:EF} {tw:Int} (h:Ex w N κ op n s A F tw) (hk:KT B wm w w') (hN:N≤B) (hB:B≤w.heap.size):Ex w' N κ op n s A F tw :=
 ⟨h.op_,h.n_,h.s_,h.kids.kept hk.below (Nat.le_trans hN hB) (fun _i q=>Nat.le_trans hN q),h.head,h.chk,h.t0,h.t1⟩
abbrev cX (x:Mst) (W:Wd) (op n:Int) (s:Str) (F:EF) (tw:Int):List Ins:=cE x.k W (.cons op n s F .nil) 0 tw
abbrev ExM (x:Mst) (f:Nat) (W:Wd) (κ:Kn) (F:EF):Prop:=∀ (op n:Int) (s:Str) (A:Option Addr) (kc:Nat) (tw:Int) (L:List Ins) (w:World),x.at w f W L→Ex w x.N κ op n s A F tw→L.length+(cX x W op n s F tw).length≤4000 →
 Calls Tryz.prog 163 #[.pointer (some ⟨x.mb,0,none⟩),.agg (ecells op n s A F.len kc),.int .i64 tw] w fun e w'=>e=.returned (.tuple #[])∧x.at w' f W (L ++ cX x W op n s F tw)∧KT x.B x.wm w w'
def AllK (x:Mst) (f:Nat) (W:Wd) (κ:Kn):EF→Prop | .nil=>True | .cons _ _ _ k r=>ExM x f W κ k∧AllK x f W κ r
theorem AllK.at {x:Mst} {f:Nat} {W:Wd} {κ:Kn}:∀ {F:EF} {j:Nat} {op n:Int} {s:Str} {K:EF},ath F j=some (op,n,s,K)→AllK x f W κ F→ExM x f W κ K
 | .nil,_,_,_,_,_,h,_=>by simp [ath] at h
 | .cons op n s k _,0,_,_,_,_,h,hA=>by
  simp only [ath,Option.some.injEq,Prod.mk.injEq] at h
  obtain ⟨rfl,rfl,rfl,rfl⟩:=h
  exact hA.1
 | .cons _ _ _ _ r,j+1,_,_,_,_,h,hA=>AllK.at (F:=r) (j:=j) h hA.2
theorem kid_at {x:Mst} {f:Nat} {W:Wd} {κ:Kn} {F:EF} {A:Option Addr} {w:World} (hA:AllK x f W κ F) (hE:ESl w x.N A F.len F) (hc:chkE κ F=none) {tw:Int} (h0:0≤tw) (h1:tw+dp F≤100) {j:Nat} (hj:j < F.len) :
 ∃ op n s K A' cap b off,A=some ⟨b,off,none⟩∧b < x.N∧Proofs.YtbfbabbcdochjaaGreatDoor.has w b (off+j * 4) 4=true∧gets w b (off+j * 4) 4=ecells op n s A' K.len cap∧Ex w x.N κ op n s A' K tw∧ExM x f W κ K∧cE x.k W F j tw=cX x W op n s K tw:=by
 obtain ⟨op,n,s,K,ha⟩:=ath_some F j hj
 obtain ⟨_,_,b,off,hAA,hEF⟩:=hE
 obtain ⟨a1,a2,a3,a4,A',cap,a5,a6,a7⟩:=ath_cells ha hEF
 obtain ⟨c1,c2,c3⟩:=ath_chk ha hc
 exact ⟨op,n,s,K,A',cap,b,off,hAA zb85,a1,a5,a6,⟨a2,a3,a4,a7,c1,c2,h0,by omega⟩,AllK.at ha hA,ath_code x.k W tw F j ha⟩
theorem MS.look {w:World} {B N mb wm sm em f:Nat} {p:Pr} {c:Pc} {b:Int} {W:Wd} {L:List Ins} (h:MS w B N mb p c b wm sm em f W L) (s:Str) :
 (Instr.lookup 154 (.map (some wm)) (.string s) false).run Tryz.prog w=.ok (.int .i64 (W s)) w:=by
 obtain ⟨F,h3,h4⟩:=h.words
 have hlk:=SMap.look (P:=Tryz.prog) h3 Tryz.underlying154 Tryz.underlying9 (z:=.int .i64 0) (fun w=>by kernel_rfl) s
 rw [hlk,h4]
def SM (x:Mst) (f:Nat) (W:Wd) (w1 w2:World):Prop:=KT x.B x.wm w1 w2∧∃ L,x.at w2 f W L
theorem has_kt {B wm N:Nat} {w w':World} (h:KT B wm w w') (hN:N≤B) (hB:B≤w.heap.size) {g o n:Nat} (hg:g < N) (q:Proofs.YtbfbabbcdochjaaGreatDoor.has w g o n=true):Proofs.YtbfbabbcdochjaaGreatDoor.has w' g o n=true:=by
 rw [has_keep h.below zb85 zb85];exact q
theorem gets_kt {B wm N:Nat} {w w':World} (h:KT B wm w w') (hN:N≤B) (hB:B≤w.heap.size) {g o n:Nat} (hg:g < N):gets w' g o n=gets w g o n:=gets_keep h.below zb85 zb85
theorem head_len {κ:Kn} {op n:Int} {s:Str} {m:Nat} (h:head1 κ op n s m=none):m=exprParts op:=by
 unfold head1 at h
 rw [ored_eq_none,must_none,Bool.and_eq_true] at h
 simpa using h.1.2
theorem head_op {κ:Kn} {op n:Int} {s:Str} {m:Nat} (h:head1 κ op n s m=none):0≤op∧op≤17:=by
 unfold head1 at h
 rw [ored_eq_none,must_none,Bool.and_eq_true] at h
 simpa [btw] using h.1.1
theorem kid_kt {B wm N:Nat} {w w':World} (h:KT B wm w w') (hNB:N≤B∧B≤w.heap.size) {b o n:Nat} {vs:Array Value} (hb:b < N) (hh:Proofs.YtbfbabbcdochjaaGreatDoor.has w b o n=true) (hg:gets w b o n=vs):Proofs.YtbfbabbcdochjaaGreatDoor.has w' b o n=true∧gets w' b o n=vs∧b < w'.heap.size :=
 ⟨has_kt h hNB.1 hNB.2 hb hh,(gets_kt h hNB.1 hNB.2 hb).trans hg,by have:=h.size;omega⟩
theorem cellX_ok {w:World} {N:Nat} {c:Pc} {p:Pr} (h:PAt w N c p) (s:Str):VrOk (cellX p.vars s):=by
 unfold cellX
 cases q:p.vars.find? (fun v=>decide (v.name=s)) with
 | none=>exact ⟨Nat.zero_le _,i64_small (n:=0) zb84,i64_small (n:=0) zb84,i64_small (n:=0) zb84⟩
 | some v=>exact h.vars.2.2.1 v (List.mem_of_find?_eq_some q)
end Go.Proofs.YtbfbabbcdochjaaGreatDoor
