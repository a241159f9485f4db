/- Several texts joined: Jn, Jo. -/
import Derived.Test.YtbfbabbcdochjaaGreatDoorRapk
import Derived.Test.YtbfbabbcdochjaaGreatDoorRaaq
import Derived.Test.YtbfbabbcdochjaaGreatDoorRabk
import Derived.Test.YtbfbabbcdochjaaGreatDoorRabl
set_option maxHeartbeats 4000000
namespace Go.Proofs.YtbfbabbcdochjaaGreatDoor
open Go.RowKit So Mc
theorem cE_len (k:Mk) (W:Wd):∀ (F:EF),(∀ (j:Nat) (t:Int),(cE k W F j t).length≤4 * F.size)∧(∀ t q:Int,(cE k W F 0 t).length+(cE k W F 1 q).length≤4 * F.size)
 | .nil=>by simp [cE]
 | .cons op n name kids r=>by
  obtain ⟨hk,hk2⟩:=cE_len k W kids
  obtain ⟨hr,-⟩:=cE_len k W r
  have h0:∀ t,(cE k W (.cons op n name kids r) 0 t).length≤4 * (1+kids.size):=fun t=>by
   have a:=hk 0 t
   have b1:=hk2 t (t+1)
   have b2:=hk2 (t+1) t
   unfold cE
   repeat' split
   all_goals simp only [List.length_append,List.length_cons,List.length_nil]
   all_goals omega
  refine ⟨fun j t=>?_,fun t q=>?_⟩
  ·cases j with
   | zero=>have:=h0 t;simp only [EF.size];omega
   | succ j=>have:=hr j t;rw [cE];simp only [EF.size];omega
  ·have a:=h0 t
   have b:=hr 0 q
   have e:cE k W (.cons op n name kids r) 1 q=cE k W r 0 q:=by rw [cE]
   rw [e]
   simp only [EF.size]
   omega
theorem cB_len (k:Mk):∀ (F:SF) (W:Wd) (f:Nat) (a:Int),(cB k F W f a).length≤7 * F.size
 | .nil,_,_,_=>by simp [cB]
 | .cons kind name e low high l els r,W,f,a=>by
  rw [cB_cons,List.length_append]
  have hr:=cB_len k r W f (a+(cS k W f a kind name e low high l els).length)
  have hl:=fun W f a=>cB_len k l W f a
  have hx:=fun W f a=>cB_len k els W f a
  obtain ⟨he,he2⟩:=cE_len k W e
  have hS:(cS k W f a kind name e low high l els).length≤7 * (1+e.size+l.size+els.size):=by
   have a0:=he 0 0
   have a1:=he2 0 1
   have a2:(cE k W e 1 0).length+(cE k W e 0 1).length≤4 * e.size:=by have:=he2 1 0;omega
   unfold cS
   split
   ·split
    ·have b:=hl W f (a+(cE k W e 0 0).length+1)
     simp only [cIf1,List.length_append,List.length_cons,List.length_nil]
     omega
    ·have b:=hl W f (a+(cE k W e 0 0).length+1)
     have c:=hx W f (a+(cE k W e 0 0).length+1+(cB k l W f (a+(cE k W e 0 0).length+1)).length+1)
     simp only [cIf,List.length_append,List.length_cons,List.length_nil]
     omega
   ·split
    ·split
     ·simp
     ·have b:=hl (updW W name (upI k f)) (f+1) (a+3)
      simp only [cFor,List.length_append,List.length_cons,List.length_nil]
      omega
    ·unfold cS0
     repeat' split
     all_goals simp only [someI,List.length_append,List.length_cons,List.length_nil]
     all_goals omega
  simp only [SF.size]
  omega
theorem vcell_pos (v:Vr):1≤So.cellsV v:=by unfold So.cellsV;split <;> omega
theorem cells_pos:∀ (l:List Vr),0≤cells l
 | []=>by simp [cells]
 | v :: r=>by have:=vcell_pos v;have:=cells_pos r;simp only [cells];omega
theorem cells_while (q:Vr→Bool):∀ (l:List Vr),cells (l.takeWhile q)≤cells l
 | []=>by simp [cells]
 | v :: r=>by
  have:=cells_while q r
  have:=cells_pos r
  have:=vcell_pos v
  rw [List.takeWhile_cons]
  split <;> simp only [cells] <;> omega
theorem cellN_bd (l:List Vr) (s:Str):0≤cellN l s∧cellN l s≤cells l:=by
 unfold cellN
 split
 ·exact ⟨cells_pos _,cells_while _ l⟩
 ·exact ⟨by omega,cells_pos l⟩
theorem knV_none0 {l:List Vr} {s:Str} (h:knV l s=0):∀ v ∈ l,¬ v.name=s:=fun v hv e=>by
 unfold knV at h
 split at h
 ·rename_i q
  have:=List.find?_eq_none.1 q v hv
  simp at this
  exact this e
 ·split at h <;> omega
theorem cellN_zero {l:List Vr} {s:Str} (h:knV l s=0):cellN l s=0:=by
 unfold cellN
 rw [if_neg]
 intro e
 rw [List.any_eq_true] at e
 obtain ⟨v,hv,q⟩:=e
 exact knV_none0 h v hv (of_decide_eq_true q)
theorem parW_other:∀ (l:List Vr) (W:Wd) (a:Int) (s:Str),(∀ v ∈ l,¬ v.name=s)→parW W a l s=W s
 | [],_,_,_,_=>rfl
 | v :: r,W,a,s,h=>by
  rw [parW,parW_other r _ _ s (fun u hu=>h u (List.mem_cons_of_mem _ hu)),updW,if_neg (fun e=>h v (List.mem_cons_self ..) e.symm)]
theorem parW_bd:∀ (l:List Vr) (W:Wd) (a b:Int) (_:∀ s,0≤W s∧W s≤b) (_:0≤a) (_:a+l.length≤b) (s:Str),0≤parW W a l s∧parW W a l s≤b
 | [],W,_,_,h,_,_,s=>h s
 | v :: r,W,a,b,h,h0,h1,s=>by
  rw [parW]
  simp only [List.length_cons] at h1
  refine parW_bd r _ (a+1) b (fun t=>?_) (by omega) (by omega) s
  unfold updW
  split
  ·omega
  ·exact h t
theorem topW_bd (p:Pr) (b:Int) (part:Nat) (hb0:0≤b) (hb:b≤100) (hc:cells p.vars≤100) (hp:p.params.length≤4) (s:Str):0≤topW p b part s∧topW p b part s≤1000:=by
 have h:=cellN_bd p.vars
 unfold topW
 split
 ·exact parW_bd _ _ _ 1000 (fun t=>by have:=h t;omega) hb0 (by omega) s
 ·split
  ·unfold updW
   split
   ·omega
   ·have:=h s;omega
  ·have:=h s;omega
theorem updAll_zero {κ:Kn} {l:List Str} {s:Str} (h:updAll κ l s=0):κ s=0∧∀ t ∈ l,¬ t=s:=by
 unfold updAll at h
 split at h
 ·omega
 ·rename_i q
  refine ⟨h,fun t ht e=>q ?_⟩
  rw [List.any_eq_true]
  exact ⟨t,ht,decide_eq_true e⟩
theorem topW_zero (p:Pr) (b:Int) (part:Nat) (s:Str) (h:knOf p part s=0):topW p b part s=0:=by
 unfold topW
 split
 ·rename_i e
  subst e
  obtain ⟨h1,h2⟩:=updAll_zero h
  rw [parW_other _ _ _ s (fun v hv e=>h2 v.name (List.mem_map.2 ⟨v,hv,rfl⟩) e)]
  exact cellN_zero h1
 ·split
  ·rename_i e
   subst e
   obtain ⟨h1,h2⟩:=updAll_zero h
   rw [updW,if_neg (fun e=>h2 p.silent (by simp) e.symm)]
   exact cellN_zero h1
  ·rename_i e1 e2
   have e3:knOf p part=knV p.vars:=by
    unfold knOf
    split
    ·exact absurd rfl e1
    ·exact absurd rfl e2
    ·rfl
   rw [e3] at h
   exact cellN_zero h
theorem nz_ahead (p:Pr):NZ (chkAhead p):=by
 unfold chkAhead chkHead
 exact NZ.ored (NZ.ored (NZ.must (by decide)) (NZ.ored (NZ.must (by decide)) (NZ.ored (NZ.must (by decide)) (NZ.must (by decide))))) (NZ.ored (nz_chkVars _ _) (NZ.ored (NZ.must (by decide)) (NZ.ored (NZ.must (by decide)) (NZ.ored (nz_chkPars _ _ _) (NZ.ored (NZ.must (by decide)) (NZ.ored (NZ.must (by decide)) (NZ.must (by decide))))))))
theorem nz_of (p:Pr):NZ (check p):=by
 unfold check
 exact NZ.ored (nz_ahead p) (NZ.ored (NZ.must (by decide)) (NZ.ored (nz_chkB _ _ _ _ _) (NZ.ored (nz_chkB _ _ _ _ _) (NZ.ored (nz_chkB _ _ _ _ _) (NZ.ored (nz_chkB _ _ _ _ _) (NZ.ored (nz_chkB _ _ _ _ _) (NZ.ored (NZ.must (by decide)) (NZ.must (by decide)))))))))
structure Chk (p:Pr):Prop where
 seats:2≤p.seats∧p.seats≤8
 vars:chkVars [] p.vars=none
 cells:cells p.vars≤64
 np:p.params.length≤4
 pars:chkPars (knV p.vars) [] p.params=none
 silent:knV p.vars p.silent=0
 size:psize p≤1000
 part:∀ i,i < 5→chkB i (knOf p i) 0 true (partOf p i)=none
 ends:ends p.turn=true
 last:restLast p.pays=true
theorem psize_part_le (p:Pr) (i:Nat) (hi:i < 5):(partOf p i).size≤psize p:=by
 rcases (by omega:i=0 ∨ i=1 ∨ i=2 ∨ i=3 ∨ i=4) with rfl | rfl | rfl | rfl | rfl <;> simp only [partOf,psize] <;> omega
theorem Chk.of {p:Pr} (h:check p=none) (hz:psize p≤1099511627776):Chk p:=by
 obtain ⟨h1,h2,h3,h4,h5,h6,h7,h8,h9⟩:=check_none.1 h
 unfold chkAhead chkHead at h1
 simp only [ored_eq_none,must_none,decide_eq_true_eq,beq_iff_eq,btw,Bool.and_eq_true] at h1
 obtain ⟨⟨_,q1,_,_⟩,q2,q3,q4,q5,_,_,q6⟩:=h1
 exact ⟨q1,q2,q3,q4,q5,q6,by rw [w64_def] at h2;omega,parts_none h,h8,h9⟩
theorem Chk.okK {p:Pr} (h:Chk p) (i:Nat) (hi:i < 5):okK (partOf p i):=okK_of (h.part i hi)
theorem Chk.psz {p:Pr} (h:Chk p) (i:Nat) (hi:i < 5):(partOf p i).size≤1000:=Nat.le_trans (psize_part_le p i hi) h.size
def codeB (p:Pr) (i:Nat):List Ins:=cB ⟨p.vars,p.seats,cells p.vars⟩ (partOf p i) (topW p (cells p.vars) i) 0 0
def codeP (p:Pr) (i:Nat):List Ins:=codeB p i ++ [⟨0,0,0,0⟩]
theorem codeB_len {p:Pr} {i:Nat} (h:(partOf p i).size≤256):(codeB p i).length≤1792:=by
 have:=cB_len ⟨p.vars,p.seats,cells p.vars⟩ (partOf p i) (topW p (cells p.vars) i) 0 0
 unfold codeB
 omega
open Go.RowKit So Mc
def firsts:List Vr→List Int
 | []=>[]
 | v :: r=>List.replicate (So.cellsV v).toNat (min (max 0 v.low) v.high) ++ firsts r
theorem firsts_len:∀ l:List Vr,((firsts l).length:Int)=cells l
 | []=>rfl
 | v :: r=>by
  have:=vcell_pos v
  have:=firsts_len r
  simp only [firsts,List.length_append,List.length_replicate,cells]
  omega
theorem firsts_app:∀ a b:List Vr,firsts (a ++ b)=firsts a ++ firsts b
 | [],b=>rfl
 | v :: r,b=>by rw [List.cons_append,firsts,firsts,firsts_app r b,List.append_assoc]
theorem firsts_take {l:List Vr} {j:Nat} (hj:j < l.length):firsts (l.take (j+1))=firsts (l.take j) ++ List.replicate (So.cellsV l[j]).toNat (min (max 0 l[j].low) l[j].high):=by
 rw [List.take_add_one,List.getElem?_eq_getElem hj,firsts_app]
 simp [firsts]
theorem cells_take_le:∀ (l:List Vr) (j:Nat),cells (l.take j)≤cells l
 | [],j=>by simp [cells]
 | v :: r,0=>by have:=cells_pos (v :: r);simpa [cells] using this
 | v :: r,j+1=>by have:=cells_take_le r j;simp only [List.take_succ_cons,cells];omega
theorem firsts_take_len {l:List Vr} (j:Nat) (h:cells l≤64):(firsts (l.take j)).length≤64:=by
 have:=firsts_len (l.take j)
 have:=cells_take_le l j
 omega
theorem chkVars_mem:∀ (l pre:List Vr),chkVars pre l=none→∀ v ∈ l,0≤v.size∧v.size≤64∧i32ok v.low∧i32ok v.high∧v.low≤v.high
 | [],_,_,v,hv=>by simp at hv
 | u :: r,pre,h,v,hv=>by
  rw [chkVars] at h
  simp only [ored_eq_none,must_none,Bool.and_eq_true,btw,span,word,decide_eq_true_eq] at h
  obtain ⟨-,-,h3,h4⟩:=h
  rcases List.mem_cons.1 hv with q | q
  ·subst q
   unfold i32ok
   omega
  ·exact chkVars_mem r _ h4 v q
theorem own_slice32 {w:World} {base:Nat} {v:Value} {n:Nat} {l:List Int} (h:w.ownsRow base 21 1 v n (mems l)):∃ A c,v=.slice A n c:=by
 rcases h.2 with ⟨hv,h0⟩ | ⟨g,c,cur,hv,_⟩
 ·exact ⟨none,0,by rw [hv,h0]⟩
 ·exact ⟨_,c,hv⟩
theorem wrap32_id {x:Int} (h:i32ok x):IntKind.i32.wrap x=x:=by
 unfold i32ok at h
 simp [IntKind.wrap_i32]
 try unfold Go.RowKit.wrap32
 omega
def InsS (w:World) (N:Nat) (s:Sl3) (l:List Ins):Prop:=s.n=l.length∧∃ b,s.A=some ⟨b,0,none⟩∧b < N∧Row w b 0 (inss l)
def I32S (w:World) (N:Nat) (s:Sl3) (l:List Int):Prop:=s.n=l.length∧(0 < s.n→∃ b,s.A=some ⟨b,0,none⟩∧b < N∧Row w b 0 (mems l))
theorem InsS.kept {S:Nat→Prop} {w w':World} {N:Nat} {s:Sl3} {l:List Ins} (h:InsS w N s l) (hk:Kept S w w') (hS:∀ i,i < N→¬ S i):InsS w' N s l:=by
 obtain ⟨h1,b,h2,h3,h4⟩:=h
 exact ⟨h1,b,h2,h3,h4.kept hk (hS b h3)⟩
theorem I32S.kept {S:Nat→Prop} {w w':World} {N:Nat} {s:Sl3} {l:List Int} (h:I32S w N s l) (hk:Kept S w w') (hS:∀ i,i < N→¬ S i):I32S w' N s l:=by
 obtain ⟨h1,h2⟩:=h
 exact ⟨h1,fun h0=>by obtain ⟨b,a1,a2,a3⟩:=h2 h0;exact ⟨b,a1,a2,a3.kept hk (hS b a2)⟩⟩
theorem InsS.of_own {w:World} {base:Nat} {s:Sl3} {l:List Ins} (h:w.ownsRow base 77 4 s.v s.n (inss l)) (hl:0 < l.length):InsS w w.heap.size s l:=by
 have hn:s.n=l.length:=by
  have:=h.1
  rw [inss_length] at this
  omega
 obtain ⟨g,c,e,hr,-,-⟩:=own_rows h (by omega) (by decide)
 obtain ⟨A,n,cc⟩:=s
 simp only [Sl3.v,Value.slice.injEq] at e
 exact ⟨hn,g,e.1,hr.lt,hr⟩
theorem I32S.of_own {w:World} {base:Nat} {s:Sl3} {l:List Int} (h:w.ownsRow base 21 1 s.v s.n (mems l)):I32S w w.heap.size s l:=by
 have hn:s.n=l.length:=by
  have:=h.1
  rw [mems_len] at this
  omega
 refine ⟨hn,fun h0=>?_⟩
 obtain ⟨g,c,e,hr,-,-⟩:=own_rows h h0 (by decide)
 obtain ⟨A,n,cc⟩:=s
 simp only [Sl3.v,Value.slice.injEq] at e
 exact ⟨g,e.1,hr.lt,hr⟩
theorem InsS.mono {w:World} {N N':Nat} {s:Sl3} {l:List Ins} (h:InsS w N s l) (hN:N≤N'):InsS w N' s l:=by
 obtain ⟨h1,b,h2,h3,h4⟩:=h
 exact ⟨h1,b,h2,by omega,h4⟩
theorem I32S.mono {w:World} {N N':Nat} {s:Sl3} {l:List Int} (h:I32S w N s l) (hN:N≤N'):I32S w N' s l:=by
 obtain ⟨h1,h2⟩:=h
 exact ⟨h1,fun h0=>by obtain ⟨b,a1,a2,a3⟩:=h2 h0;exact ⟨b,a1,by omega,a3⟩⟩
theorem VSl.up {w:World} {N N':Nat} {A:Option Addr} {n:Nat} {l:List Vr} (h:VSl w N A n l) (hN:N≤N'):VSl w N' A n l:=by
 obtain ⟨h1,h2,h3,b,off,h4,h5⟩:=h
 exact ⟨h1,h2,h3,b,off,h4,fun h0=>⟨by have:=(h5 h0).1;omega,(h5 h0).2⟩⟩
structure CodeAt (w:World) (N cb:Nat) (k:Cd) (p:Pr):Prop where
 lt:cb < N
 le:N≤w.heap.size
 box:Blk w cb 90 k.c
 kc:k.cells=cells p.vars
 ks:k.seats=p.seats
 first:I32S w N k.first (firsts p.vars)
 params:VSl w N k.params.A k.params.n p.params
 ins:∀ i,i < 5→InsS w N (k.i i) (codeP p i)
 most:∀ i,i < 5→k.m i=stepN p i
theorem CodeAt.kept {S:Nat→Prop} {w w':World} {N cb:Nat} {k:Cd} {p:Pr} (h:CodeAt w N cb k p) (hk:Kept S w w') (hS:∀ i,i < N→¬ S i):CodeAt w' N cb k p :=
 ⟨h.lt,Nat.le_trans h.le hk.size,Blk.kept h.box hk (hS cb h.lt),h.kc,h.ks,h.first.kept hk hS,h.params.kept hk (fun i hi=>Nat.le_of_not_lt (fun q=>hS i q hi)),fun i hi=>(h.ins i hi).kept hk hS,h.most⟩
theorem CodeAt.ext {w w':World} {N cb:Nat} {k:Cd} {p:Pr} (h:CodeAt w N cb k p) (hk:Ext w w'):CodeAt w' N cb k p:=h.kept hk (fun _ _ f=>f)
theorem CodeAt.up {w:World} {N N' cb:Nat} {k:Cd} {p:Pr} (h:CodeAt w N cb k p) (hN:N≤N') (hw:N'≤w.heap.size):CodeAt w N' cb k p :=
 ⟨by have:=h.lt;omega,hw,h.box,h.kc,h.ks,h.first.mono hN,VSl.up h.params hN,fun i hi=>(h.ins i hi).mono hN,h.most⟩
def longAt (p:Pr):Prop:=∃ i,i < 5∧256 < (partOf p i).size
inductive CompOut (p:Pr) (w':World):Ending→Prop
 | bad (f:Flt) (h:check p=some f):CompOut p w' (.returned (.tuple #[.pointer none,.int .i64 f.e]))
 | long (h:check p=none) (hl:longAt p):CompOut p w' (.returned (.tuple #[.pointer none,.int .i64 5]))
 | steps (h:check p=none) (hl:¬ longAt p) (hs:∃ i,i < 5∧65536 < stepN p i):CompOut p w' (.returned (.tuple #[.pointer none,.int .i64 12]))
 | ok (h:check p=none) (hl:¬ longAt p) (hs:∀ i,i < 5→stepN p i≤65536) (cb:Nat) (k:Cd) (hc:CodeAt w' w'.heap.size cb k p):CompOut p w' (.returned (.tuple #[.pointer (some ⟨cb,0,none⟩),.int .i64 0]))
end Go.Proofs.YtbfbabbcdochjaaGreatDoor
