/- Several texts joined: Sm, G. -/
import Derived.MapKept
import Derived.Laws.AppendOwn
import Derived.Laws.AppendOwnNone
import Derived.ProofKit
import Derived.OpenShut
import Derived.ShutString
import Derived.ChangeOld
import Derived.Below
import Derived.Deep.Slices
import Derived.Lib.Hide
import Derived.Test.YtbfbabbcdochjaaGreatDoorRxpk
import Derived.Test.YtbfbabbcdochjaaGreatDoorRxaa
import Derived.Test.YtbfbabbcdochjaaGreatDoorRxab
set_option maxHeartbeats 4000000
namespace Go.Proofs.YtbfbabbcdochjaaGreatDoor
open Go.RowKit
def SMap (w:World) (g:Nat) (f:ByteArray→Option Value):Prop :=
 ∃ es clock,w.heap[g]?=some (.map es clock)∧(∀ x ∈ es.toList,MapKept.IsKey .string x.key)∧(es.toList.map (·.key)).Nodup∧∀ s v,f s=some v ↔ ∃ x ∈ es.toList,x.key=.string s∧x.val=v
section
variable {P:Program} {w w':World} {g:Nat} {f:ByteArray→Option Value} {mt kt et:TypeId}
theorem SMap.lt (h:SMap w g f):g < w.heap.size:=by
 obtain ⟨_,_,hb,_⟩:=h
 exact (Array.getElem?_eq_some_iff.1 hb).1
theorem SMap.kept {S:Nat→Prop} (h:SMap w g f) (hk:Kept S w w') (hs:¬ S g):SMap w' g f:=by
 have hl:=h.lt
 obtain ⟨es,clock,hb,r⟩:=h
 exact ⟨es,clock,(hk.block g hl hs).trans hb,r⟩
theorem SMap.ext (h:SMap w g f) (hk:Ext w w'):SMap w' g f:=h.kept hk (fun f=>f)
theorem SMap.cong {f':ByteArray→Option Value} (h:SMap w g f) (e:∀ s,f s=f' s):SMap w g f':=by
 obtain ⟨es,clock,hb,hk,hn,hm⟩:=h
 exact ⟨es,clock,hb,hk,hn,fun s v=>by rw [← e];exact hm s v⟩
theorem SMap.made (w:World):SMap (w.alloc (.map #[] 0)) w.heap.size (fun _=>none) :=
 ⟨#[],0,(MapKept.heap_alloc w _).1,by simp,by simp,by simp⟩
theorem key_str (s:ByteArray):MapKept.IsKey .string (.string s):=by simp [MapKept.IsKey]
theorem SMap.find (h:SMap w g f) (s:ByteArray):∃ es clock,w.heap[g]?=some (.map es clock)∧(∀ x ∈ es.toList,MapKept.IsKey .string x.key)∧(es.toList.map (·.key)).Nodup∧(∀ s v,f s=some v ↔ ∃ x ∈ es.toList,x.key=.string s∧x.val=v) ∧
 ((Instr.findNow .string (.string s) es.toList 0=some none∧f s=none∧∀ x ∈ es.toList,x.key ≠ .string s) ∨ ∃ j e,Instr.findNow .string (.string s) es.toList 0=some (some (j,e.val))∧es.toList[j]?=some e∧e.key=.string s∧f s=some e.val):=by
 obtain ⟨es,clock,hb,hk,hn,hm⟩:=h
 refine ⟨es,clock,hb,hk,hn,hm,?_⟩
 rcases MapKept.findNow_spec (key_str s) es.toList 0 hk with ⟨h1,h2⟩ | ⟨j,e,h1,h2,h3⟩
 ·refine .inl ⟨h1,?_,h2⟩
  cases hf:f s with
  | none=>rfl
  | some v =>
   obtain ⟨x,hx,he,_⟩:=(hm s v).1 hf
   exact absurd he (h2 x hx)
 ·rw [Nat.zero_add] at h1
  exact .inr ⟨j,e,h1,h2,h3,(hm s e.val).2 ⟨e,List.mem_of_getElem? h2,h3,rfl⟩⟩
theorem SMap.look (h:SMap w g f) (hu:P.underlying mt=some (.map kt et)) (hk:P.underlying kt=some .string) {z:Value} (hz:∀ w:World,(zeroValue et).run P w=.ok z w) (s:ByteArray) :
 (Instr.lookup mt (.map (some g)) (.string s) false).run P w=.ok ((f s).getD z) w:=by
 exact zz47
theorem SMap.look_ok (h:SMap w g f) (hu:P.underlying mt=some (.map kt et)) (hk:P.underlying kt=some .string) {z:Value} (hz:∀ w:World,(zeroValue et).run P w=.ok z w) (s:ByteArray) :
 (Instr.lookup mt (.map (some g)) (.string s) true).run P w=.ok (.tuple #[(f s).getD z,.bool (f s).isSome]) w:=by
 exact zz47
theorem keep_set {o:Obj}:Kept (·=g) w { w with heap:=w.heap.setIfInBounds g o } :=
 ⟨rfl,rfl,rfl,by simp,fun j _ hn=>by
  show (w.heap.setIfInBounds g o)[j]?=_
  rw [Array.getElem?_setIfInBounds_ne (fun e=>hn e.symm)]⟩
theorem SMap.put (h:SMap w g f) (hu:P.underlying mt=some (.map kt et)) (hk:P.underlying kt=some .string) (s:ByteArray) (v:Value) :
 ∃ w',(Instr.mapUpdate mt (.map (some g)) (.string s) v).run P w=.ok () w'∧SMap w' g (fun t=>if t=s then some v else f t)∧Kept (·=g) w w':=by
 obtain ⟨es,clock,hb,hks,hn,hm,⟨h1,hf,hnew⟩ | ⟨j,e,h1,h2,h3,h4⟩⟩:=h.find s
 ·refine ⟨{ w with heap:=w.heap.setIfInBounds g (.map (es.push ⟨.string s,v,clock⟩) (clock+1)) },?_,⟨_,_,(MapKept.heap_set hb).1,?_,?_,?_⟩,keep_set⟩
  ·simp [Instr.mapUpdate,run_underlying hu,MapKept.run_getObj_map hb,MapKept.run_checkKey hk (key_str s),MapKept.run_findKey hk h1,MapKept.run_setObj_map _ hb,Result.andThen]
  ·intro x hx
   simp only [Array.toList_push,List.mem_append,List.mem_singleton] at hx
   rcases hx with hx | rfl
   ·exact hks x hx
   ·exact key_str s
  ·rw [Array.toList_push,List.map_append]
   refine List.nodup_append.2 ⟨hn,by simp,fun a ha b hb' e=>?_⟩
   obtain ⟨x,hx,rfl⟩:=List.mem_map.1 ha
   simp at hb'
   subst hb'
   exact hnew x hx e
  ·intro t u
   show (if t=s then some v else f t)=some u ↔ _
   simp only [Array.toList_push,List.mem_append,List.mem_singleton]
   by_cases e:t=s
   ·subst e
    rw [if_pos rfl]
    constructor
    ·intro q
     cases q
     exact ⟨_,.inr rfl,rfl,rfl⟩
    ·rintro ⟨x,hx | rfl,hxk,hxv⟩
     ·exact absurd hxk (hnew x hx)
     ·rw [← hxv]
   ·rw [if_neg e,hm]
    constructor
    ·rintro ⟨x,hx,hxk,hxv⟩
     exact ⟨x,.inl hx,hxk,hxv⟩
    ·rintro ⟨x,hx | rfl,hxk,hxv⟩
     ·exact ⟨x,hx,hxk,hxv⟩
     ·injection hxk with hxk
      exact absurd hxk.symm e
 ·have hj:es[j]?=some e:=by simpa using h2
  have hkey:∀ e',es[j]?=some e'→({ e' with key:=.string s,val:=v }:MapEntry).key=e'.key:=fun e' he'=>by rw [hj] at he';cases he';exact h3.symm
  have hjl:j < es.size:=(Array.getElem?_eq_some_iff.1 hj).1
  refine ⟨{ w with heap:=w.heap.setIfInBounds g (.map (es.modify j fun e=>{ e with key:=.string s,val:=v }) clock) },?_,⟨_,_,(MapKept.heap_set hb).1,MapKept.isKey_modify hks _ _ hkey,?_,?_⟩,keep_set⟩
  ·simp [Instr.mapUpdate,run_underlying hu,MapKept.run_getObj_map hb,MapKept.run_checkKey hk (key_str s),MapKept.run_findKey hk h1,hj,h3,MapKept.run_keyThatStays (key_str s),MapKept.run_setObj_map _ hb,Result.andThen]
  ·rw [MapKept.modify_keys _ _ hkey]
   exact hn
  ·have hat:∀ i,(es.modify j fun e=>{ e with key:=.string s,val:=v }).toList[i]?=if i=j then some ⟨.string s,v,e.born⟩ else es.toList[i]?:=fun i=>by
    rw [Array.getElem?_toList,Array.getElem?_modify]
    by_cases ei:i=j
    ·subst ei;simp [hj]
    ·rw [if_neg (fun q=>ei q.symm),if_neg ei,Array.getElem?_toList]
   have huni:∀ i x,es.toList[i]?=some x→x.key=.string s→i=j:=fun i x hx hxk=>by
    exact zz41
   intro t u
   show (if t=s then some v else f t)=some u ↔ _
   by_cases et':t=s
   ·subst et'
    rw [if_pos rfl]
    constructor
    ·intro q
     cases q
     exact ⟨⟨.string t,v,e.born⟩,List.mem_of_getElem? (i:=j) (by rw [hat,if_pos rfl]),rfl,rfl⟩
    ·rintro ⟨x,hx,hxk,hxv⟩
     obtain ⟨i,hi⟩:=List.getElem?_of_mem hx
     rw [hat] at hi
     split at hi
     ·cases hi
      rw [← hxv]
     ·rename_i hne
      exact absurd (huni i x hi hxk) hne
   ·rw [if_neg et',hm]
    constructor
    ·rintro ⟨x,hx,hxk,hxv⟩
     obtain ⟨i,hi⟩:=List.getElem?_of_mem hx
     have hne:¬ i=j:=fun q=>by
      subst q
      rw [h2] at hi
      cases hi
      rw [h3] at hxk
      injection hxk with hxk
      exact et' hxk.symm
     exact ⟨x,List.mem_of_getElem? (i:=i) (by rw [hat,if_neg hne];exact hi),hxk,hxv⟩
    ·rintro ⟨x,hx,hxk,hxv⟩
     obtain ⟨i,hi⟩:=List.getElem?_of_mem hx
     rw [hat] at hi
     split at hi
     ·cases hi
      injection hxk with hxk
      exact absurd hxk.symm et'
     ·exact ⟨x,List.mem_of_getElem? hi,hxk,hxv⟩
theorem SMap.del (h:SMap w g f) (hu:P.underlying mt=some (.map kt et)) (hk:P.underlying kt=some .string) (ty:TypeId) (s:ByteArray) :
 ∃ w',(Builtin.delete_ #[mt,kt] ty #[.map (some g),.string s]).run P w=.ok (.tuple #[]) w'∧SMap w' g (fun t=>if t=s then none else f t)∧Kept (·=g) w w':=by
 obtain ⟨es,clock,hb,hks,hn,hm,⟨h1,hf,hnew⟩ | ⟨j,e,h1,h2,h3,h4⟩⟩:=h.find s
 ·refine ⟨{ w with heap:=w.heap.setIfInBounds g (.map es clock) },?_,⟨es,clock,(MapKept.heap_set hb).1,hks,hn,fun t u=>?_⟩,keep_set⟩
  ·simp [Builtin.delete_,run_underlying hu,MapKept.run_getObj_map hb,MapKept.run_checkKey hk (key_str s),MapKept.run_findKey hk h1,MapKept.run_setObj_map _ hb,Result.andThen]
  ·show (if t=s then none else f t)=some u ↔ _
   by_cases et':t=s
   ·subst et'
    rw [if_pos rfl,← hf,hm]
   ·rw [if_neg et',hm]
 ·have hjl:j < es.size:=by have:=(List.getElem?_eq_some_iff.1 h2).1;simpa using this
  have hel:(es.eraseIdxIfInBounds j).toList=es.toList.eraseIdx j:=by
   unfold Array.eraseIdxIfInBounds
   rw [dif_pos hjl,Array.toList_eraseIdx]
  have hsub:(es.toList.eraseIdx j).Sublist es.toList:=List.eraseIdx_sublist _ _
  refine ⟨{ w with heap:=w.heap.setIfInBounds g (.map (es.eraseIdxIfInBounds j) clock) },?_,⟨_,clock,(MapKept.heap_set hb).1,?_,?_,fun t u=>?_⟩,keep_set⟩
  ·simp [Builtin.delete_,run_underlying hu,MapKept.run_getObj_map hb,MapKept.run_checkKey hk (key_str s),MapKept.run_findKey hk h1,MapKept.run_setObj_map _ hb,Result.andThen]
  ·rw [hel];exact fun x hx=>hks x (hsub.subset hx)
  ·rw [hel];exact (hsub.map _).nodup hn
  ·rw [hel]
   have huni:∀ i x,es.toList[i]?=some x→x.key=.string s→i=j:=fun i x hx hxk=>by
    exact zz41
   show (if t=s then none else f t)=some u ↔ _
   by_cases et':t=s
   ·subst et'
    rw [if_pos rfl]
    constructor
    ·intro q;cases q
    ·rintro ⟨x,hx,hxk,_⟩
     obtain ⟨i,hij,hi⟩:=List.mem_eraseIdx_iff_getElem?.1 hx
     exact absurd (huni i x hi hxk) hij
   ·rw [if_neg et',hm]
    constructor
    ·rintro ⟨x,hx,hxk,hxv⟩
     obtain ⟨i,hi⟩:=List.getElem?_of_mem hx
     refine ⟨x,List.mem_eraseIdx_iff_getElem?.2 ⟨i,fun q=>?_,hi⟩,hxk,hxv⟩
     subst q
     rw [h2] at hi
     cases hi
     rw [h3] at hxk
     injection hxk with hxk
     exact et' hxk.symm
    ·rintro ⟨x,hx,hxk,hxv⟩
     exact ⟨x,hsub.subset hx,hxk,hxv⟩
end
open Go.RowKit
structure Row (w:World) (b off:Nat) (vs:List Value):Prop where
 has:has w b off vs.length=true
 get:gets w b off vs.length=vs.toArray
 lt:b < w.heap.size
section
variable {w w':World} {b off:Nat} {vs:List Value}
theorem Row.inv (h:Row w b off vs):∃ c t fr,w.heap[b]?=some (.cells c t fr)∧off+vs.length≤c.size∧(c.toList.drop off).take vs.length=vs:=by
 have h1:=h.has
 have h2:=h.get
 unfold Proofs.YtbfbabbcdochjaaGreatDoor.has at h1
 unfold gets at h2
 split at h1
 ·rename_i c t fr hq
  rw [hq] at h2
  exact ⟨c,t,fr,hq,of_decide_eq_true h1,by simpa using h2⟩
 ·cases h1
theorem Row.kept {S:Nat→Prop} (h:Row w b off vs) (hk:Kept S w w') (hs:¬ S b):Row w' b off vs:=by
 have hb:=hk.block b h.lt hs
 refine ⟨?_,?_,Nat.lt_of_lt_of_le h.lt hk.size⟩
 ·have:=h.has;unfold Proofs.YtbfbabbcdochjaaGreatDoor.has at this ⊢;rw [hb];exact this
 ·have:=h.get;unfold gets at this ⊢;rw [hb];exact this
theorem Row.ext (h:Row w b off vs) (hk:Ext w w'):Row w' b off vs:=h.kept hk (fun f=>f)
theorem Row.sub (h:Row w b off vs) (j m:Nat) (hj:j+m≤vs.length):Proofs.YtbfbabbcdochjaaGreatDoor.has w b (off+j) m=true∧gets w b (off+j) m=((vs.drop j).take m).toArray:=by
 obtain ⟨c,t,fr,hq,hle,htk⟩:=h.inv
 unfold Proofs.YtbfbabbcdochjaaGreatDoor.has gets
 rw [hq]
 refine ⟨by simp;omega,?_⟩
 show ((c.toList.drop (off+j)).take m).toArray=_
 rw [← htk,List.drop_take,List.take_take,List.drop_drop,Nat.min_eq_left zb85]
theorem Row.cell (h:Row w b off vs) (i:Nat) (hi:i < vs.length):w.cell? ⟨b,off+i,none⟩=vs[i]?:=by
 obtain ⟨c,t,fr,hq,hle,htk⟩:=h.inv
 rw [cell_of_row w b (off+i) c t fr hq,← htk,List.getElem?_take,if_pos hi,List.getElem?_drop]
 simp
theorem Row.of_blk {t:TypeId} {cs:Array Value} (h:Blk w b t cs):Row w b 0 cs.toList:=by
 refine ⟨by rw [bH h];simp,?_,Blk.lt h⟩
 rw [bG h]
 simp [List.take_of_length_le]
end
theorem ret_ci {P:Program} {fn:Func} {R:Ending→World→Prop} {a:Act} {w:World} {p j:Tmp} {ty t:TypeId} {g:Nat} {cs:Array Value}
 (hres:fn.results=#[.cell p ty,.tmp j]) (hd:a.defers=[]) (hp:a.tmps.getD p undef=.pointer (some ⟨g,0,none⟩)) (ha:aggT P ty=true) (hs:sizeT P ty=some cs.size) (hb:Blk w g t cs)
 (hR:R (.returned (.tuple #[.agg cs,a.tmps.getD j undef])) w):bodyPost P fn R .ret a w:=by
 exact zz86
theorem ret_bool {a b:Bool} (h:a=b):Ending.returned (.bool a)=.returned (.bool b):=by rw [h]
theorem own_ext {w w':World} {base:Nat} {E:TypeId} {sz:Nat} {v:Value} {n:Nat} {xs:List Value} (h:w.ownsRow base E sz v n xs) (hk:Ext w w'):w'.ownsRow base E sz v n xs :=
 h.kept (row:=none) ⟨hk.os,hk.tape,hk.output,hk.size,fun k hl _=>hk.block k hl (fun f=>f)⟩ (by cases hv:v.ownBlock <;> simp)
theorem own_mono {w:World} {b b':Nat} {E:TypeId} {sz:Nat} {v:Value} {n:Nat} {xs:List Value} (h:w.ownsRow b' E sz v n xs) (hb:b≤b'):w.ownsRow b E sz v n xs:=by
 refine ⟨h.1,?_⟩
 rcases h.2 with h1 | ⟨g,c,cur,hv,hg,r⟩
 ·exact .inl h1
 ·exact .inr ⟨g,c,cur,hv,Nat.le_trans hb hg,r⟩
theorem own_kept {S:Nat→Prop} {w w':World} {base:Nat} {E:TypeId} {sz:Nat} {v:Value} {n:Nat} {xs:List Value} (h:w.ownsRow base E sz v n xs) (hk:Kept S w w') (hs:∀ g,v.ownBlock=some g→¬ S g):w'.ownsRow base E sz v n xs:=by
 refine ⟨h.1,?_⟩
 rcases h.2 with h1 | ⟨g,c,cur,hv,hg,hc,r⟩
 ·exact .inl h1
 ·refine .inr ⟨g,c,cur,hv,hg,?_,r⟩
  rw [hk.block g (Array.getElem?_eq_some_iff.1 hc).1 (hs g (by rw [hv];rfl))]
  exact hc
theorem own_ty {w:World} {base:Nat} {E:TypeId} {sz:Nat} {v:Value} {n:Nat} {xs:List Value} (h:w.ownsRow base E sz v n xs) {i:Nat} (hi:v.ownBlock=some i):∃ cur,w.heap[i]?=some (.cells cur E (0,0)):=by
 rcases h.2 with ⟨hv,_⟩ | ⟨g,c,cur,hv,_,hc,_⟩
 ·rw [hv] at hi;simp [Value.ownBlock] at hi
 ·rw [hv] at hi
  simp [Value.ownBlock] at hi
  subst hi
  exact ⟨cur,hc⟩
theorem own_other {w:World} {base:Nat} {E E':TypeId} {sz:Nat} {v:Value} {n:Nat} {xs:List Value} (h:w.ownsRow base E sz v n xs) (hE:¬ E=E'):∀ i,v.ownBlock=some i→∀ cur fr,¬ w.heap[i]?=some (.cells cur E' fr):=fun i hi cur fr e=>by
 obtain ⟨cur',e'⟩:=own_ty h hi
 rw [e] at e'
 injection e' with e'
 injection e' with _ e' _
 exact hE e'.symm
theorem own_new (w:World) (E:TypeId) (sz:Nat):(w.alloc (.cells #[] E)).ownsRow w.heap.size E sz (.slice (some ⟨w.heap.size,0,none⟩) 0 0) 0 [] :=
 ⟨by simp,.inr ⟨w.heap.size,0,#[],rfl,Nat.le_refl _,heap_alloc_new w _,Nat.le_refl _,by simp,by simp,by simp⟩⟩
theorem Kept.of_grown {w w':World} {row:Option Nat} (h:w.grownBy w' row):Kept (fun i=>row=some i) w w' :=
 ⟨h.os,h.tape,h.output,h.size,fun k hk hn=>h.block k hk (fun e=>hn e.symm)⟩
theorem addr_add' (b off j:Nat):(⟨b,off,none⟩:Addr).add j=⟨b,off+j,none⟩:=by unfold Addr.add;split <;> simp_all
theorem Row.cells {w:World} {b off:Nat} {vs:List Value} (h:Row w b off vs):∀ j u,vs[j]?=some u→w.cell? ((⟨b,off,none⟩:Addr).add j)=some u:=fun j u hu=>by
 rw [addr_add',h.cell j (List.getElem?_eq_some_iff.1 hu).1,hu]
theorem app_some {P:Program} {T E:TypeId} {i:TypeInfo} {z:Value} {sz bytes:Nat} (ht:P.underlying T=some (.slice E)) (hi:P.info? E=some i) (hz:i.zero=some z) (h1:i.size=sz) (h2:i.bytes=bytes) (h3:z.cells.size=sz) (h4:0 < sz)
 (w:World) (base:Nat) (v:Value) (n:Nat) (xs:List Value) (hown:w.ownsRow base E sz v n xs) (b off m c:Nat) (ys:List Value) (hl:ys.length=m * sz) (hr:Row w b off ys) (hf:flatL ys=true) (hn:n+m≤maxLen) (hb:(n+m) * bytes≤140737488355328) (hbase:base≤w.heap.size) :
 ∃ v' w',(Builtin.append_ #[T,T] T #[v,.slice (some ⟨b,off,none⟩) m c]).run P w=.ok v' w'∧w'.ownsRow base E sz v' (n+m) (xs ++ ys)∧Kept (fun i=>v.ownBlock=some i) w w':=by
 obtain ⟨v',w',hrun,ho,hg,_⟩:=run_append_own (P:=P) w base T T E i z sz bytes ht hi hz h1 h2 h3 h4 v n xs hown ⟨b,off,none⟩ m c ys hl hr.cells (flatL_all hf) hn hb hbase
 exact ⟨v',w',hrun,ho,Kept.of_grown hg⟩
theorem wpList_app {P:Program} {w:World} {ops:Array Oper} {rest:List Oper} {o:Oper} {a:Act} {Q:Exit→Act→World→Prop} (hgd:o.guard=none) (x y:Operand) (T:TypeId)
 (ho:o.op=.call { callee:=.builtin .append,args:=#[x,y],argTypes:=#[T,T] }) {ty:TypeId} (hty:o.type=ty) {v s v':Value} {w':World} (hx:a.eval x=v) (hy:a.eval y=s)
 (hrun:(Builtin.append_ #[T,T] ty #[v,s]).run P w=.ok v' w') (h:wpList P ops Q rest (a.put o.dst v') w'):wpList P ops Q (o :: rest) a w :=
 wpList_plain hgd fun _ hK=>by
  subst hty
  unfold Oper.wp execOp
  simp only [ho,resolve,invoke,builtin,Sem.run_bind,Sem.run_pure,Result.andThen_ok,List.map_toArray,List.map_cons,List.map_nil,hx,hy,hrun]
  exact hK _ _ h
theorem wpList_make {P:Program} {w:World} {ops:Array Oper} {rest:List Oper} {o:Oper} {a:Act} {Q:Exit→Act→World→Prop} (hgd:o.guard=none) (x y:Operand) (T:TypeId)
 (ho:o.op=.makeSlice T x y) {v s v':Value} {w':World} (hx:a.eval x=v) (hy:a.eval y=s)
 (hrun:(Instr.makeSlice T v s).run P w=.ok v' w') (h:wpList P ops Q rest (a.put o.dst v') w'):wpList P ops Q (o :: rest) a w :=
 wpList_plain hgd fun _ hK=>by
  unfold Oper.wp execOp
  simp only [ho,Sem.run_bind,Sem.run_pure,Result.andThen_ok,hx,hy,hrun]
  exact hK _ _ h
theorem iff_want {c:Bool} {p q:Prop} (hc:c=true) (h:p):if c=true then p else q:=by rw [if_pos hc];exact h
theorem has_ext {w w1:World} {g o n:Nat} (hS:Ext w w1) (hg:g < w.heap.size) (h:Proofs.YtbfbabbcdochjaaGreatDoor.has w g o n=true):Proofs.YtbfbabbcdochjaaGreatDoor.has w1 g o n=true:=by
 unfold Proofs.YtbfbabbcdochjaaGreatDoor.has at h ⊢
 rw [hS.block g hg (fun f=>f)]
 exact h
theorem gets_ext {w w1:World} {g o n:Nat} {c:Array Value} (hS:Ext w w1) (hg:g < w.heap.size) (h:gets w g o n=c):gets w1 g o n=c:=by
 unfold gets at h ⊢
 rw [hS.block g hg (fun f=>f)]
 exact h
theorem own_rows {w:World} {base:Nat} {E:TypeId} {sz:Nat} {v:Value} {n:Nat} {xs:List Value} (h:w.ownsRow base E sz v n xs) (h0:0 < n) (hz:0 < sz):∃ g c,v=.slice (some ⟨g,0,none⟩) n c∧Row w g 0 xs∧base≤g∧(∃ cur,w.heap[g]?=some (.cells cur E (0,0))):=by
 have hl:=h.1
 rcases h.2 with ⟨hv,e0⟩ | ⟨g,c,cur,hv,hb,hc,hnc,hcm,hcs,htk⟩
 ·subst e0
  have:=Nat.mul_pos h0 hz
  simp at hl
  omega
 ·refine ⟨g,c,hv,⟨?_,?_,(Array.getElem?_eq_some_iff.1 hc).1⟩,hb,cur,hc⟩
  ·unfold has;rw [hc,hl];simp only [Nat.zero_add,decide_eq_true_eq];rw [hcs];exact Nat.mul_le_mul_right _ hnc
  ·unfold gets;rw [hc,hl];simp only [List.drop_zero];rw [htk]
def i64ok (n:Int):Prop:=-9223372036854775808≤n∧n≤9223372036854775807
theorem results_none' {P:Program} {fn:Func} {R:Ending→World→Prop} {a:Act} {w:World} (hres:fn.results=#[]) (hd:a.defers=[]) (hR:R (.returned (.tuple #[])) w):bodyPost P fn R .ret a w :=
 bodyPost_ret (results_none hres _ _ _) hd hR
open Go.Deep Go.ChangeShapes Go.WideShapes
theorem oaddr_add (b off j:Nat):(⟨b,off,none⟩:Addr).add j=⟨b,off+j,none⟩:=by unfold Addr.add;split <;> simp_all
theorem ospot_of_cell {w:World} {a:Addr} {v:Value} (h:w.cell? a=some v):a.spot=none:=by
 unfold World.cell? at h
 split at h
 ·split at h
  ·cases h
  ·rename_i hn;cases hs:a.spot with
   | none=>rfl
   | some x=>simp [hs] at hn
 ·cases h
theorem row_of_cells {w:World} {b o:Nat} (vs:List Value) (hne:0 < vs.length) (h:∀ j,j < vs.length→w.cell? ⟨b,o+j,none⟩=vs[j]?):Row w b o vs:=by
 have h0:=h 0 hne
 cases hq:w.heap[b]? with
 | none=>simp [World.cell?,hq,List.getElem?_eq_getElem hne] at h0
 | some ob =>
  cases ob with
  | cells c t fr =>
   have hc:∀ j,j < vs.length→c[o+j]?=vs[j]?:=fun j hj=>by have:=h j hj;simpa [World.cell?,hq] using this
   have hlast:=hc (vs.length - 1) zb85
   have hlt:o+(vs.length - 1) < c.size:=by
    rw [List.getElem?_eq_getElem zb85] at hlast
    exact (Array.getElem?_eq_some_iff.1 hlast).1
   refine ⟨by unfold Proofs.YtbfbabbcdochjaaGreatDoor.has;rw [hq];simp;omega,?_,(Array.getElem?_eq_some_iff.1 hq).1⟩
   unfold gets
   rw [hq]
   show ((c.toList.drop o).take vs.length).toArray=vs.toArray
   congr 1
   apply List.ext_getElem?
   intro j
   rw [List.getElem?_take]
   split
   ·rename_i hj
    rw [List.getElem?_drop,← hc j hj];simp
   ·rename_i hj
    rw [List.getElem?_eq_none zb85]
  | _=>simp [World.cell?,hq,List.getElem?_eq_getElem hne] at h0
theorem flatten_get {sz:Nat} (hsz:0 < sz):∀ (css:List (List Value)) (_:∀ cs ∈ css,cs.length=sz) (k:Nat),css.flatten[k]?=(css.getD (k / sz) [])[k % sz]?
 | [],_,k=>by simp
 | c :: r,h,k=>by
  have hc:=h c zb86
  have ih:=flatten_get hsz r (fun cs hcs=>h cs (by simp [hcs]))
  rw [List.flatten_cons]
  by_cases hk:k < sz
  ·rw [List.getElem?_append_left zb85,Nat.div_eq_of_lt hk,Nat.mod_eq_of_lt hk]
   simp
  ·rw [List.getElem?_append_right zb85,hc,ih (k - sz)]
   have e1:k / sz=(k - sz) / sz+1:=by rw [Nat.div_eq k sz,if_pos ⟨hsz,by omega⟩]
   have e2:k % sz=(k - sz) % sz:=by rw [Nat.mod_eq k sz,if_pos ⟨hsz,by omega⟩]
   rw [e1,e2]
   simp
theorem flatten_len {sz:Nat}:∀ (css:List (List Value)) (_:∀ cs ∈ css,cs.length=sz),css.flatten.length=css.length * sz
 | [],_=>by simp
 | c :: r,h=>by
  have hc:=h c zb86
  have ih:=flatten_len r (fun cs hcs=>h cs (by simp [hcs]))
  rw [List.flatten_cons,List.length_append,ih,hc,List.length_cons,Nat.succ_mul]
  omega
def rowsL {α:Type} (f:α→Array Value) (l:List α):List Value:=l.flatMap fun d=>(f d).toList
section
variable {α:Type} {f:α→Array Value} {k:Nat}
theorem rowsL_len (hf:∀ d,(f d).size=k) (l:List α):(rowsL f l).length=l.length * k:=by
 induction l with
 | nil=>simp [rowsL]
 | cons d l ih =>
  show ((f d).toList ++ rowsL f l).length=_
  rw [List.length_append,ih,Array.length_toList,hf,List.length_cons,Nat.succ_mul]
  omega
theorem rowsL_at (hf:∀ d,(f d).size=k):∀ (l:List α) (j:Nat) (hj:j < l.length),((rowsL f l).drop (j * k)).take k=(f l[j]).toList
 | d :: l,0,_=>by
  show (((f d).toList ++ rowsL f l).drop (0 * k)).take k=_
  rw [Nat.zero_mul,List.drop_zero,List.take_append,List.take_of_length_le (by rw [Array.length_toList,hf];exact Nat.le_refl _),Array.length_toList,hf]
  simp
 | d :: l,j+1,hj=>by
  have ih:=rowsL_at hf l j (by simpa using hj)
  show (((f d).toList ++ rowsL f l).drop ((j+1) * k)).take k=_
  have hl:(f d).toList.length=k:=by rw [Array.length_toList,hf]
  rw [Nat.succ_mul,Nat.add_comm,← hl,List.drop_append,List.drop_of_length_le (l:=(f d).toList) zb85]
  simp only [Nat.add_sub_cancel_left,List.nil_append]
  rw [hl]
  exact ih
theorem rowsL_row (hf:∀ d,(f d).size=k) {w:World} {b off:Nat} {l:List α} (h:Row w b off (rowsL f l)) (j:Nat) (hj:j < l.length):Proofs.YtbfbabbcdochjaaGreatDoor.has w b (off+j * k) k=true∧gets w b (off+j * k) k=f l[j]:=by
 have:=h.sub (j * k) k (by rw [rowsL_len hf];calc
  j * k+k=(j+1) * k:=by rw [Nat.succ_mul]
  _≤l.length * k:=Nat.mul_le_mul_right _ hj)
 rw [rowsL_at hf l j hj] at this
 exact this
theorem flatL_app:∀ (a b:List Value),flatL (a ++ b)=(flatL a && flatL b)
 | [],b=>by simp [flatL]
 | x :: a,b=>by simp [flatL,flatL_app a b,Bool.and_assoc]
theorem rowsL_flat (hf:∀ d,flatL (f d).toList=true) (l:List α):flatL (rowsL f l)=true:=by
 induction l with
 | nil=>rfl
 | cons d l ih=>show flatL ((f d).toList ++ rowsL f l)=true;rw [flatL_app,hf,ih];rfl
theorem rowsL_app (l q:List α):rowsL f l ++ rowsL f q=rowsL f (l ++ q):=by simp [rowsL]
end
inductive AllV {α β:Type} (V:World→α→β→Prop) (w:World):List α→List β→Prop where
 | nil:AllV V w [] []
 | cons {a:α} {b:β} {xs:List α} {ys:List β}:V w a b→AllV V w xs ys→AllV V w (a :: xs) (b :: ys)
section
variable {α β:Type} {V:World→α→β→Prop} {w w':World}
theorem AllV.mono (h:∀ a b,V w a b→V w' a b):∀ {xs:List α} {ys:List β},AllV V w xs ys→AllV V w' xs ys
 | _,_,.nil=>.nil
 | _,_,.cons x r=>.cons (h _ _ x) (r.mono h)
theorem AllV.len:∀ {xs:List α} {ys:List β},AllV V w xs ys→xs.length=ys.length
 | _,_,.nil=>rfl
 | _,_,.cons _ r=>by simp [r.len]
theorem AllV.snoc {a:α} {b:β} (h:V w a b):∀ {xs:List α} {ys:List β},AllV V w xs ys→AllV V w (xs ++ [a]) (ys ++ [b])
 | _,_,.nil=>.cons h .nil
 | _,_,.cons x r=>.cons x (r.snoc h)
theorem AllV.get:∀ {xs:List α} {ys:List β} (_:AllV V w xs ys) (j:Nat) (h1:j < xs.length) (h2:j < ys.length),V w xs[j] ys[j]
 | _,_,.cons x _,0,_,_=>x
 | _,_,.cons _ r,j+1,h1,h2=>r.get j (by simpa using h1) (by simpa using h2)
end
section
variable {H:Type} {enc:TypeId × Value→H} {P:Program} {w:World} {base:Nat} {spare:Nat→Bool} {held:Bool}
end
end Go.Proofs.YtbfbabbcdochjaaGreatDoor
