/- Several texts joined: Jo. -/
import Derived.Test.YtbfbabbcdochjaaGreatDoorRxpk
import Derived.Test.YtbfbabbcdochjaaGreatDoorRxbk
set_option maxHeartbeats 4000000
namespace Go.Proofs.YtbfbabbcdochjaaGreatDoor
open Go.RowKit So Mc
def firsts:List Vr→List Int
 | []=>[]
 | v :: r=>List.replicate (So.cellsV v).toNat (min (max 0 v.low) v.high) ++ firsts r
theorem firsts_len:∀ l:List Vr,((firsts l).length:Int)=cells l
 | []=>rfl
 | v :: r=>by
  have:=vcell_pos v
  have:=firsts_len r
  simp only [firsts,List.length_append,List.length_replicate,cells]
  omega
theorem firsts_app:∀ a b:List Vr,firsts (a ++ b)=firsts a ++ firsts b
 | [],b=>rfl
 | v :: r,b=>by rw [List.cons_append,firsts,firsts,firsts_app r b,List.append_assoc]
theorem firsts_take {l:List Vr} {j:Nat} (hj:j < l.length):firsts (l.take (j+1))=firsts (l.take j) ++ List.replicate (So.cellsV l[j]).toNat (min (max 0 l[j].low) l[j].high):=by
 rw [List.take_add_one,List.getElem?_eq_getElem hj,firsts_app]
 simp [firsts]
theorem cells_take_le:∀ (l:List Vr) (j:Nat),cells (l.take j)≤cells l
 | [],j=>by simp [cells]
 | v :: r,0=>by have:=cells_pos (v :: r);simpa [cells] using this
 | v :: r,j+1=>by have:=cells_take_le r j;simp only [List.take_succ_cons,cells];omega
theorem firsts_take_len {l:List Vr} (j:Nat) (h:cells l≤64):(firsts (l.take j)).length≤64:=by
 have:=firsts_len (l.take j)
 have:=cells_take_le l j
 omega
theorem chkVars_mem:∀ (l pre:List Vr),chkVars pre l=none→∀ v ∈ l,0≤v.size∧v.size≤64∧i32ok v.low∧i32ok v.high∧v.low≤v.high
 | [],_,_,v,hv=>by simp at hv
 | u :: r,pre,h,v,hv=>by
  rw [chkVars] at h
  simp only [ored_eq_none,must_none,Bool.and_eq_true,btw,span,word,decide_eq_true_eq] at h
  obtain ⟨-,-,h3,h4⟩:=h
  rcases List.mem_cons.1 hv with q | q
  ·subst q
   unfold i32ok
   omega
  ·exact chkVars_mem r _ h4 v q
theorem own_slice32 {w:World} {base:Nat} {v:Value} {n:Nat} {l:List Int} (h:w.ownsRow base 21 1 v n (mems l)):∃ A c,v=.slice A n c:=by
 rcases h.2 with ⟨hv,h0⟩ | ⟨g,c,cur,hv,_⟩
 ·exact ⟨none,0,by rw [hv,h0]⟩
 ·exact ⟨_,c,hv⟩
theorem wrap32_id {x:Int} (h:i32ok x):IntKind.i32.wrap x=x:=by
 unfold i32ok at h
 simp [IntKind.wrap_i32]
 try unfold Go.RowKit.wrap32
 omega
def InsS (w:World) (N:Nat) (s:Sl3) (l:List Ins):Prop:=s.n=l.length∧∃ b,s.A=some ⟨b,0,none⟩∧b < N∧Row w b 0 (inss l)
def I32S (w:World) (N:Nat) (s:Sl3) (l:List Int):Prop:=s.n=l.length∧(0 < s.n→∃ b,s.A=some ⟨b,0,none⟩∧b < N∧Row w b 0 (mems l))
theorem InsS.kept {S:Nat→Prop} {w w':World} {N:Nat} {s:Sl3} {l:List Ins} (h:InsS w N s l) (hk:Kept S w w') (hS:∀ i,i < N→¬ S i):InsS w' N s l:=by
 obtain ⟨h1,b,h2,h3,h4⟩:=h
 exact ⟨h1,b,h2,h3,h4.kept hk (hS b h3)⟩
theorem I32S.kept {S:Nat→Prop} {w w':World} {N:Nat} {s:Sl3} {l:List Int} (h:I32S w N s l) (hk:Kept S w w') (hS:∀ i,i < N→¬ S i):I32S w' N s l:=by
 obtain ⟨h1,h2⟩:=h
 exact ⟨h1,fun h0=>by obtain ⟨b,a1,a2,a3⟩:=h2 h0;exact ⟨b,a1,a2,a3.kept hk (hS b a2)⟩⟩
theorem InsS.of_own {w:World} {base:Nat} {s:Sl3} {l:List Ins} (h:w.ownsRow base 77 4 s.v s.n (inss l)) (hl:0 < l.length):InsS w w.heap.size s l:=by
 have hn:s.n=l.length:=by
  have:=h.1
  rw [inss_length] at this
  omega
 obtain ⟨g,c,e,hr,-,-⟩:=own_rows h zb85 zb84
 obtain ⟨A,n,cc⟩:=s
 simp only [Sl3.v,Value.slice.injEq] at e
 exact ⟨hn,g,e.1,hr.lt,hr⟩
theorem I32S.of_own {w:World} {base:Nat} {s:Sl3} {l:List Int} (h:w.ownsRow base 21 1 s.v s.n (mems l)):I32S w w.heap.size s l:=by
 have hn:s.n=l.length:=by
  have:=h.1
  rw [mems_len] at this
  omega
 refine ⟨hn,fun h0=>?_⟩
 obtain ⟨g,c,e,hr,-,-⟩:=own_rows h h0 zb84
 obtain ⟨A,n,cc⟩:=s
 simp only [Sl3.v,Value.slice.injEq] at e
 exact ⟨g,e.1,hr.lt,hr⟩
theorem InsS.mono {w:World} {N N':Nat} {s:Sl3} {l:List Ins} (h:InsS w N s l) (hN:N≤N'):InsS w N' s l:=by
 obtain ⟨h1,b,h2,h3,h4⟩:=h
 exact ⟨h1,b,h2,by omega,h4⟩
theorem I32S.mono {w:World} {N N':Nat} {s:Sl3} {l:List Int} (h:I32S w N s l) (hN:N≤N'):I32S w N' s l:=by
 obtain ⟨h1,h2⟩:=h
 exact ⟨h1,fun h0=>by obtain ⟨b,a1,a2,a3⟩:=h2 h0;exact ⟨b,a1,by omega,a3⟩⟩
theorem VSl.up {w:World} {N N':Nat} {A:Option Addr} {n:Nat} {l:List Vr} (h:VSl w N A n l) (hN:N≤N'):VSl w N' A n l:=by
 obtain ⟨h1,h2,h3,b,off,h4,h5⟩:=h
 exact ⟨h1,h2,h3,b,off,h4,fun h0=>⟨by have:=(h5 h0).1;omega,(h5 h0).2⟩⟩
structure CodeAt (w:World) (N cb:Nat) (k:Cd) (p:Pr):Prop where
 lt:cb < N
 le:N≤w.heap.size
 box:Blk w cb 90 k.c
 kc:k.cells=cells p.vars
 ks:k.seats=p.seats
 first:I32S w N k.first (firsts p.vars)
 params:VSl w N k.params.A k.params.n p.params
 ins:∀ i,i < 5→InsS w N (k.i i) (codeP p i)
 most:∀ i,i < 5→k.m i=stepN p i
theorem CodeAt.kept {S:Nat→Prop} {w w':World} {N cb:Nat} {k:Cd} {p:Pr} (h:CodeAt w N cb k p) (hk:Kept S w w') (hS:∀ i,i < N→¬ S i):CodeAt w' N cb k p :=
 ⟨h.lt,Nat.le_trans h.le hk.size,bK h.box hk (hS cb h.lt),h.kc,h.ks,h.first.kept hk hS,h.params.kept hk (fun i hi=>Nat.le_of_not_lt (fun q=>hS i q hi)),fun i hi=>(h.ins i hi).kept hk hS,h.most⟩
theorem CodeAt.ext {w w':World} {N cb:Nat} {k:Cd} {p:Pr} (h:CodeAt w N cb k p) (hk:Ext w w'):CodeAt w' N cb k p:=h.kept hk (fun _ _ f=>f)
theorem CodeAt.up {w:World} {N N' cb:Nat} {k:Cd} {p:Pr} (h:CodeAt w N cb k p) (hN:N≤N') (hw:N'≤w.heap.size):CodeAt w N' cb k p :=
 ⟨by have:=h.lt;omega,hw,h.box,h.kc,h.ks,h.first.mono hN,VSl.up h.params hN,fun i hi=>(h.ins i hi).mono hN,h.most⟩
def longAt (p:Pr):Prop:=∃ i,i < 5∧256 < (partOf p i).size
inductive CompOut (p:Pr) (w':World):Ending→Prop
 | bad (f:Flt) (h:check p=some f):CompOut p w' (.returned (.tuple #[.pointer none,.int .i64 f.e]))
 | long (h:check p=none) (hl:longAt p):CompOut p w' (.returned (.tuple #[.pointer none,.int .i64 5]))
 | steps (h:check p=none) (hl:¬ longAt p) (hs:∃ i,i < 5∧65536 < stepN p i):CompOut p w' (.returned (.tuple #[.pointer none,.int .i64 12]))
 | ok (h:check p=none) (hl:¬ longAt p) (hs:∀ i,i < 5→stepN p i≤65536) (cb:Nat) (k:Cd) (hc:CodeAt w' w'.heap.size cb k p):CompOut p w' (.returned (.tuple #[.pointer (some ⟨cb,0,none⟩),.int .i64 0]))
end Go.Proofs.YtbfbabbcdochjaaGreatDoor
