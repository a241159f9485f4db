/- Several texts joined: Kj, Kk, Kl, Kx. -/
import Derived.Test.YtbfbabbcdochjaaGreatDoorRapk
import Derived.Test.YtbfbabbcdochjaaGreatDoorRaas
import Derived.Test.YtbfbabbcdochjaaGreatDoorRaat
import Derived.Test.YtbfbabbcdochjaaGreatDoorRaau
set_option maxHeartbeats 4000000
namespace Go.Proofs.YtbfbabbcdochjaaGreatDoor.Mc
open Go.RowKit
set_option maxRecDepth 100000 in
theorem st_none (w:World) (base s g n kc q:Nat) (A:Option Addr) (b off cn cap:Nat) (c:List Ins) (pc:Int) (m:List Int) (h:StepPre w base s g n kc q A b off cn c pc m) (hnx:nextI c pc n=none) :
 Calls Tryz.prog 63 #[.pointer (some ⟨s,0,none⟩),.slice A cn cap,.map (some q)] w fun e w'=>e=.returned (.tuple #[])∧Stepped w w' base s g n kc (pc,2,m):=by
 obtain ⟨hn,hn1,hn2,hmok,hops,hst,hmem,hmap,hcA,hrow,hcn,hcn2,hpc0,hpc1,hsg⟩:=h
 have hls:=hst.lt
 have HX:=zhd hnx
 have HOP:=zhd hops
 have HA:=zhd hcA
 have HR:=zhd hrow
 have HCN:=zhd hcn
 clear hnx hn hmok hops hcA hrow hcn hmap
 go_enter Tryz.func63,Tryz.ntmps63
 go_wp2_with fail
 refine (next_any s pc 0 (some ⟨g,0,none⟩) n kc A b off c cn cap _ HCN.out hcn2 hpc0 HA.out HOP.out hst HR.out).mono ?_
 rintro e w1 ⟨e1,hx1⟩
 replace e1:e=.returned (.tuple #[.agg (Ins.cells ⟨0,0,0,0⟩),.bool false]):=by rw [e1,HX.out];rfl
 subst e1
 have x1:=hx1.alloc (.cells (Ins.cells ⟨0,0,0,0⟩) 77)
 have hS1:=Blk.ext hst x1
 have hM1:=hmem.ext x1
 have l1:=hx1.size
 clear hst hmem hx1
 go_upto_region 1 with (fail)
 generalize (w1.alloc (.cells (Ins.cells ⟨0,0,0,0⟩) 77))=W1 at x1 hS1 hM1 ⊢
 have hcS:=Blk.cell hS1
 have hfS:=Blk.frozen hS1
 go_wp2_with fail
 refine results_none' Tryz.results63 rfl ⟨rfl,?_⟩
 exact Stepped.halt (Kept.ext x1) hS1 hM1 hsg _
set_option maxRecDepth 100000 in
theorem st_lost15 (w:World) (base s g n kc q:Nat) (A:Option Addr) (b off cn cap:Nat) (c:List Ins) (pc:Int) (m:List Int) (h:StepPre w base s g n kc q A b off cn c pc m) (x y z:Int) (hnx:nextI c pc n=some ⟨15,x,y,z⟩) (hright:rightI ⟨15,x,y,z⟩ cn n=true) (hfar:farI ⟨15,x,y,z⟩ m < 0) :
 Calls Tryz.prog 63 #[.pointer (some ⟨s,0,none⟩),.slice A cn cap,.map (some q)] w fun e w'=>e=.returned (.tuple #[])∧Stepped w w' base s g n kc (pc,2,m):=by
 obtain ⟨hn,hn1,hn2,hmok,hops,hst,hmem,hmap,hcA,hrow,hcn,hcn2,hpc0,hpc1,hsg⟩:=h
 have hls:=hst.lt
 obtain ⟨F,hF⟩:∃ F,F=farI ⟨15,x,y,z⟩ m:=⟨_,rfl⟩
 rw [← hF] at hfar
 have HF:=zhd hF
 have HX:=zhd hnx
 have HN:=zhd hn
 have HO:=zhd hmok
 have HOP:=zhd hops
 have HA:=zhd hcA
 have HR:=zhd hrow
 have HCN:=zhd hcn
 have HRT:=zhd hright
 clear hnx hn hmok hops hcA hrow hcn hmap hright hF
 go_enter Tryz.func63,Tryz.ntmps63
 go_wp2_with fail
 refine (next_any s pc 0 (some ⟨g,0,none⟩) n kc A b off c cn cap _ HCN.out hcn2 hpc0 HA.out HOP.out hst HR.out).mono ?_
 rintro e w1 ⟨e1,hx1⟩
 replace e1:e=.returned (.tuple #[.agg (Ins.cells ⟨15,x,y,z⟩),.bool true]):=by rw [e1,HX.out];rfl
 subst e1
 have hI1:=Blk.new w1 77 (Ins.cells ⟨15,x,y,z⟩)
 have x1:=hx1.alloc (.cells (Ins.cells ⟨15,x,y,z⟩) 77)
 have hS1:=Blk.ext hst x1
 have hM1:=hmem.ext x1
 have l1:=hx1.size
 clear hst hmem hx1
 go_upto_region 3 with (fail)
 generalize (w1.alloc (.cells (Ins.cells ⟨15,x,y,z⟩) 77))=W1 at hI1 x1 hS1 hM1 ⊢
 generalize w1.heap.size=ic at hI1 l1 ⊢
 have hi1:=Blk.has hI1
 have hj1:=Blk.gets hI1
 go_wp2_with fail
 refine (far_any ⟨15,x,y,z⟩ cn s pc 0 g 0 n kc m _ HN.out hn2 HRT.out HO.out hS1 hM1.row).mono ?_
 exact zz35
set_option maxRecDepth 100000 in
theorem st_lost16 (w:World) (base s g n kc q:Nat) (A:Option Addr) (b off cn cap:Nat) (c:List Ins) (pc:Int) (m:List Int) (h:StepPre w base s g n kc q A b off cn c pc m) (x y z:Int) (hnx:nextI c pc n=some ⟨16,x,y,z⟩) (hright:rightI ⟨16,x,y,z⟩ cn n=true) (hfar:farI ⟨16,x,y,z⟩ m < 0) :
 Calls Tryz.prog 63 #[.pointer (some ⟨s,0,none⟩),.slice A cn cap,.map (some q)] w fun e w'=>e=.returned (.tuple #[])∧Stepped w w' base s g n kc (pc,2,m):=by
 obtain ⟨hn,hn1,hn2,hmok,hops,hst,hmem,hmap,hcA,hrow,hcn,hcn2,hpc0,hpc1,hsg⟩:=h
 have hls:=hst.lt
 obtain ⟨F,hF⟩:∃ F,F=farI ⟨16,x,y,z⟩ m:=⟨_,rfl⟩
 rw [← hF] at hfar
 have HF:=zhd hF
 have HX:=zhd hnx
 have HN:=zhd hn
 have HO:=zhd hmok
 have HOP:=zhd hops
 have HA:=zhd hcA
 have HR:=zhd hrow
 have HCN:=zhd hcn
 have HRT:=zhd hright
 clear hnx hn hmok hops hcA hrow hcn hmap hright hF
 go_enter Tryz.func63,Tryz.ntmps63
 go_wp2_with fail
 refine (next_any s pc 0 (some ⟨g,0,none⟩) n kc A b off c cn cap _ HCN.out hcn2 hpc0 HA.out HOP.out hst HR.out).mono ?_
 rintro e w1 ⟨e1,hx1⟩
 replace e1:e=.returned (.tuple #[.agg (Ins.cells ⟨16,x,y,z⟩),.bool true]):=by rw [e1,HX.out];rfl
 subst e1
 have hI1:=Blk.new w1 77 (Ins.cells ⟨16,x,y,z⟩)
 have x1:=hx1.alloc (.cells (Ins.cells ⟨16,x,y,z⟩) 77)
 have hS1:=Blk.ext hst x1
 have hM1:=hmem.ext x1
 have l1:=hx1.size
 clear hst hmem hx1
 go_upto_region 3 with (fail)
 generalize (w1.alloc (.cells (Ins.cells ⟨16,x,y,z⟩) 77))=W1 at hI1 x1 hS1 hM1 ⊢
 generalize w1.heap.size=ic at hI1 l1 ⊢
 have hi1:=Blk.has hI1
 have hj1:=Blk.gets hI1
 go_wp2_with fail
 refine (far_any ⟨16,x,y,z⟩ cn s pc 0 g 0 n kc m _ HN.out hn2 HRT.out HO.out hS1 hM1.row).mono ?_
 exact zz35
theorem nextI_right {c:List Ins} {pc:Int} {k:Nat} {i:Ins} (h:nextI c pc k=some i):rightI i c.length k=true:=by
 unfold nextI at h
 split at h
 ·split at h
  ·cases h;assumption
  ·cases h
 ·cases h
theorem farI_bd (i:Ins) (m:List Int):farI i m < m.length:=by
 unfold farI placeI
 split
 ·split <;> omega
 ·split
  ·split <;> omega
  ·omega
theorem lost_false {i:Ins} {m:List Int} (h:lost i m=false) (h15:i.op=15 ∨ i.op=16):0≤farI i m:=by
 unfold lost at h
 rcases h15 with e | e <;> (simp [e] at h;omega)
set_option maxRecDepth 100000 in
theorem step_any (w:World) (base s g n kc q:Nat) (A:Option Addr) (b off cn cap:Nat) (c:List Ins) (pc:Int) (m:List Int) (h:StepPre w base s g n kc q A b off cn c pc m) :
 Calls Tryz.prog 63 #[.pointer (some ⟨s,0,none⟩),.slice A cn cap,.map (some q)] w fun e w'=>e=.returned (.tuple #[])∧Stepped w w' base s g n kc (stepI c pc m):=by
 have hn:=h.n_eq
 have hcn:=h.cn_eq
 cases hnx:nextI c pc n with
 | none =>
  have e:stepI c pc m=(pc,2,m):=by unfold stepI;rw [← hn,hnx]
  rw [e]
  exact st_none w base s g n kc q A b off cn cap c pc m h hnx
 | some i =>
  have hr:=nextI_right hnx
  rw [← hcn] at hr
  obtain ⟨h0,h22,ha,hb,hc,he⟩:=rightI_parts hr
  cases hl:lost i m with
  | true =>
   have e:stepI c pc m=(pc,2,m):=by unfold stepI;rw [← hn,hnx];simp [hl]
   rw [e]
   have hl':=hl
   simp [lost] at hl'
   obtain ⟨op,x,y,z⟩:=i
   simp only at hl'
   rcases hl'.2 with rfl | rfl
   ·exact st_lost15 w base s g n kc q A b off cn cap c pc m h x y z hnx hr hl'.1
   ·exact st_lost16 w base s g n kc q A b off cn cap c pc m h x y z hnx hr hl'.1
  | false =>
   have e:stepI c pc m=execI i pc m:=by unfold stepI;rw [← hn,hnx];simp [hl]
   rw [e]
   have hfb:=farI_bd i m
   have hfl:=lost_false hl
   obtain ⟨op,x,y,z⟩:=i
   simp only at h0 h22 ha hb hc
   obtain ⟨k,rfl⟩:∃ k:Nat,op=k:=⟨op.toNat,by omega⟩
   have hk:k < 22:=by omega
   clear h0 h22 e hl
   have hall:k=0 ∨ k=1 ∨ k=2 ∨ k=3 ∨ k=4 ∨ k=5 ∨ k=6 ∨ k=7 ∨ k=8 ∨ k=9 ∨ k=10 ∨ k=11 ∨ k=12 ∨ k=13 ∨ k=14 ∨ k=15 ∨ k=16 ∨ k=17 ∨ k=18 ∨ k=19 ∨ k=20 ∨ k=21:=by omega
   rcases hall with rfl | rfl | rfl | rfl | rfl | rfl | rfl | rfl | rfl | rfl | rfl | rfl | rfl | rfl | rfl | rfl | rfl | rfl | rfl | rfl | rfl | rfl
   ·have ha':=okP_n rfl ha
    exact st_0 w base s g n kc q A b off cn cap c pc m h x y z (by simpa [rightE] using he) hnx hr
   ·have ha':=okP_w rfl ha
    obtain ⟨x,rfl⟩:∃ t:Nat,x=t:=⟨Int.toNat x,by omega⟩
    have hb':=okP_n rfl hb
    exact st_1 w base s g n kc q A b off cn cap c pc m h x y z (by omega) hb'.1 hb'.2 hnx hr
   ·have ha':=okP_w rfl ha
    obtain ⟨x,rfl⟩:∃ t:Nat,x=t:=⟨Int.toNat x,by omega⟩
    have hb':=okP_w rfl hb
    obtain ⟨y,rfl⟩:∃ t:Nat,y=t:=⟨Int.toNat y,by omega⟩
    exact st_2 w base s g n kc q A b off cn cap c pc m h x y z (by omega) (by omega) hnx hr
   ·have ha':=okP_w rfl ha
    obtain ⟨x,rfl⟩:∃ t:Nat,x=t:=⟨Int.toNat x,by omega⟩
    have hb':=okP_w rfl hb
    obtain ⟨y,rfl⟩:∃ t:Nat,y=t:=⟨Int.toNat y,by omega⟩
    have hc':=okP_w rfl hc
    obtain ⟨z,rfl⟩:∃ t:Nat,z=t:=⟨Int.toNat z,by omega⟩
    exact st_3 w base s g n kc q A b off cn cap c pc m h x y z (by omega) (by omega) (by omega) hnx hr
   ·have ha':=okP_w rfl ha
    obtain ⟨x,rfl⟩:∃ t:Nat,x=t:=⟨Int.toNat x,by omega⟩
    have hb':=okP_w rfl hb
    obtain ⟨y,rfl⟩:∃ t:Nat,y=t:=⟨Int.toNat y,by omega⟩
    have hc':=okP_w rfl hc
    obtain ⟨z,rfl⟩:∃ t:Nat,z=t:=⟨Int.toNat z,by omega⟩
    exact st_4 w base s g n kc q A b off cn cap c pc m h x y z (by omega) (by omega) (by omega) hnx hr
   ·have ha':=okP_w rfl ha
    obtain ⟨x,rfl⟩:∃ t:Nat,x=t:=⟨Int.toNat x,by omega⟩
    have hb':=okP_w rfl hb
    obtain ⟨y,rfl⟩:∃ t:Nat,y=t:=⟨Int.toNat y,by omega⟩
    have hc':=okP_w rfl hc
    obtain ⟨z,rfl⟩:∃ t:Nat,z=t:=⟨Int.toNat z,by omega⟩
    exact st_5 w base s g n kc q A b off cn cap c pc m h x y z (by omega) (by omega) (by omega) hnx hr
   ·have ha':=okP_w rfl ha
    obtain ⟨x,rfl⟩:∃ t:Nat,x=t:=⟨Int.toNat x,by omega⟩
    have hb':=okP_w rfl hb
    obtain ⟨y,rfl⟩:∃ t:Nat,y=t:=⟨Int.toNat y,by omega⟩
    have hc':=okP_w rfl hc
    obtain ⟨z,rfl⟩:∃ t:Nat,z=t:=⟨Int.toNat z,by omega⟩
    exact st_6 w base s g n kc q A b off cn cap c pc m h x y z (by omega) (by omega) (by omega) hnx hr
   ·have ha':=okP_w rfl ha
    obtain ⟨x,rfl⟩:∃ t:Nat,x=t:=⟨Int.toNat x,by omega⟩
    have hb':=okP_w rfl hb
    obtain ⟨y,rfl⟩:∃ t:Nat,y=t:=⟨Int.toNat y,by omega⟩
    have hc':=okP_w rfl hc
    obtain ⟨z,rfl⟩:∃ t:Nat,z=t:=⟨Int.toNat z,by omega⟩
    exact st_7 w base s g n kc q A b off cn cap c pc m h x y z (by omega) (by omega) (by omega) hnx hr
   ·have ha':=okP_w rfl ha
    obtain ⟨x,rfl⟩:∃ t:Nat,x=t:=⟨Int.toNat x,by omega⟩
    have hb':=okP_w rfl hb
    obtain ⟨y,rfl⟩:∃ t:Nat,y=t:=⟨Int.toNat y,by omega⟩
    have hc':=okP_w rfl hc
    obtain ⟨z,rfl⟩:∃ t:Nat,z=t:=⟨Int.toNat z,by omega⟩
    exact st_8 w base s g n kc q A b off cn cap c pc m h x y z (by omega) (by omega) (by omega) hnx hr
   ·have ha':=okP_w rfl ha
    obtain ⟨x,rfl⟩:∃ t:Nat,x=t:=⟨Int.toNat x,by omega⟩
    have hb':=okP_w rfl hb
    obtain ⟨y,rfl⟩:∃ t:Nat,y=t:=⟨Int.toNat y,by omega⟩
    have hc':=okP_w rfl hc
    obtain ⟨z,rfl⟩:∃ t:Nat,z=t:=⟨Int.toNat z,by omega⟩
    exact st_9 w base s g n kc q A b off cn cap c pc m h x y z (by omega) (by omega) (by omega) hnx hr
   ·have ha':=okP_w rfl ha
    obtain ⟨x,rfl⟩:∃ t:Nat,x=t:=⟨Int.toNat x,by omega⟩
    have hb':=okP_w rfl hb
    obtain ⟨y,rfl⟩:∃ t:Nat,y=t:=⟨Int.toNat y,by omega⟩
    have hc':=okP_w rfl hc
    obtain ⟨z,rfl⟩:∃ t:Nat,z=t:=⟨Int.toNat z,by omega⟩
    exact st_10 w base s g n kc q A b off cn cap c pc m h x y z (by omega) (by omega) (by omega) hnx hr
   ·have ha':=okP_w rfl ha
    obtain ⟨x,rfl⟩:∃ t:Nat,x=t:=⟨Int.toNat x,by omega⟩
    have hb':=okP_w rfl hb
    obtain ⟨y,rfl⟩:∃ t:Nat,y=t:=⟨Int.toNat y,by omega⟩
    have hc':=okP_w rfl hc
    obtain ⟨z,rfl⟩:∃ t:Nat,z=t:=⟨Int.toNat z,by omega⟩
    exact st_11 w base s g n kc q A b off cn cap c pc m h x y z (by omega) (by omega) (by omega) hnx hr
   ·have ha':=okP_w rfl ha
    obtain ⟨x,rfl⟩:∃ t:Nat,x=t:=⟨Int.toNat x,by omega⟩
    have hb':=okP_w rfl hb
    obtain ⟨y,rfl⟩:∃ t:Nat,y=t:=⟨Int.toNat y,by omega⟩
    have hc':=okP_w rfl hc
    obtain ⟨z,rfl⟩:∃ t:Nat,z=t:=⟨Int.toNat z,by omega⟩
    exact st_12 w base s g n kc q A b off cn cap c pc m h x y z (by omega) (by omega) (by omega) hnx hr
   ·have ha':=okP_w rfl ha
    obtain ⟨x,rfl⟩:∃ t:Nat,x=t:=⟨Int.toNat x,by omega⟩
    have hb':=okP_w rfl hb
    obtain ⟨y,rfl⟩:∃ t:Nat,y=t:=⟨Int.toNat y,by omega⟩
    have hc':=okP_w rfl hc
    obtain ⟨z,rfl⟩:∃ t:Nat,z=t:=⟨Int.toNat z,by omega⟩
    exact st_13 w base s g n kc q A b off cn cap c pc m h x y z (by omega) (by omega) (by omega) hnx hr
   ·have ha':=okP_w rfl ha
    obtain ⟨x,rfl⟩:∃ t:Nat,x=t:=⟨Int.toNat x,by omega⟩
    have hb':=okP_w rfl hb
    obtain ⟨y,rfl⟩:∃ t:Nat,y=t:=⟨Int.toNat y,by omega⟩
    exact st_14 w base s g n kc q A b off cn cap c pc m h x y z (by omega) (by omega) hnx hr
   ·have ha':=okP_w rfl ha
    obtain ⟨x,rfl⟩:∃ t:Nat,x=t:=⟨Int.toNat x,by omega⟩
    have hb':=okP_w rfl hb
    obtain ⟨y,rfl⟩:∃ t:Nat,y=t:=⟨Int.toNat y,by omega⟩
    have hc':=okP_w rfl hc
    obtain ⟨z,rfl⟩:∃ t:Nat,z=t:=⟨Int.toNat z,by omega⟩
    have hf0:=hfl (.inl rfl)
    obtain ⟨p,hp⟩:∃ p:Nat,farI ⟨(15:Nat),x,y,z⟩ m=p:=⟨(farI ⟨(15:Nat),x,y,z⟩ m).toNat,by omega⟩
    exact st_15 w base s g n kc q A b off cn cap c pc m h x y z p (by omega) (by omega) hp hnx hr
   ·have ha':=okP_w rfl ha
    obtain ⟨x,rfl⟩:∃ t:Nat,x=t:=⟨Int.toNat x,by omega⟩
    have hb':=okP_w rfl hb
    obtain ⟨y,rfl⟩:∃ t:Nat,y=t:=⟨Int.toNat y,by omega⟩
    have hc':=okP_w rfl hc
    obtain ⟨z,rfl⟩:∃ t:Nat,z=t:=⟨Int.toNat z,by omega⟩
    have hf0:=hfl (.inr rfl)
    obtain ⟨p,hp⟩:∃ p:Nat,farI ⟨(16:Nat),x,y,z⟩ m=p:=⟨(farI ⟨(16:Nat),x,y,z⟩ m).toNat,by omega⟩
    exact st_16 w base s g n kc q A b off cn cap c pc m h x y z p (by omega) (by omega) hp hnx hr
   ·have ha':=okP_w rfl ha
    obtain ⟨x,rfl⟩:∃ t:Nat,x=t:=⟨Int.toNat x,by omega⟩
    have hb':=okP_n rfl hb
    have hc':=okP_n rfl hc
    exact st_17 w base s g n kc q A b off cn cap c pc m h x y z (by omega) hb'.1 hb'.2 hc'.1 hc'.2 hnx hr
   ·have ha':=okP_w rfl ha
    obtain ⟨x,rfl⟩:∃ t:Nat,x=t:=⟨Int.toNat x,by omega⟩
    have hb':=okP_w rfl hb
    obtain ⟨y,rfl⟩:∃ t:Nat,y=t:=⟨Int.toNat y,by omega⟩
    have hc':=okP_n rfl hc
    have hz0:0≤z:=by simpa [rightE] using he
    exact st_18 w base s g n kc q A b off cn cap c pc m h x y z (by omega) (by omega) hz0 hc'.2 hnx hr
   ·have ha':=okP_p rfl ha
    obtain ⟨x,rfl⟩:∃ t:Nat,x=t:=⟨Int.toNat x,by omega⟩
    exact st_19 w base s g n kc q A b off cn cap c pc m h x y z hnx hr
   ·have ha':=okP_p rfl ha
    obtain ⟨x,rfl⟩:∃ t:Nat,x=t:=⟨Int.toNat x,by omega⟩
    have hb':=okP_w rfl hb
    obtain ⟨y,rfl⟩:∃ t:Nat,y=t:=⟨Int.toNat y,by omega⟩
    exact st_20 w base s g n kc q A b off cn cap c pc m h x y z (by omega) hnx hr
   ·have ha':=okP_p rfl ha
    obtain ⟨x,rfl⟩:∃ t:Nat,x=t:=⟨Int.toNat x,by omega⟩
    have hb':=okP_w rfl hb
    obtain ⟨y,rfl⟩:∃ t:Nat,y=t:=⟨Int.toNat y,by omega⟩
    exact st_21 w base s g n kc q A b off cn cap c pc m h x y z (by omega) hnx hr
open Go.RowKit
theorem infoM32:(Tryz.prog.info? 21).map (fun i=>(i.zero,i.size,i.bytes))=some (some (.int .i32 0),1,4):=by kernel_rfl
theorem mems_flatL (l:List Int):flatL (mems l)=true:=by
 induction l with
 | nil=>rfl
 | cons d l ih=>show flatL (.int .i32 d :: mems l)=true;simpa [flatL,Value.oneCell'] using ih
theorem appM (w:World) (base:Nat) (v:Value) (n:Nat) (xs:List Int) (hown:w.ownsRow base 21 1 v n (mems xs)) (b off m c:Nat) (l:List Int) (hm:m=l.length) (hr:Row w b off (mems l)) (hn:n+m≤100000) (hbase:base≤w.heap.size) :
 ∃ v' w',(Builtin.append_ #[27,27] 27 #[v,.slice (some ⟨b,off,none⟩) m c]).run Tryz.prog w=.ok v' w'∧w'.ownsRow base 21 1 v' (n+m) (mems (xs ++ l))∧Kept (fun i=>v.ownBlock=some i) w w':=by
 obtain ⟨i,hi,hz,h1,h2⟩:=info_parts infoM32
 have:=app_some (P:=Tryz.prog) Tryz.underlying27 hi hz h1 h2 (by rfl) (by decide) w base v n (mems xs) hown b off m c (mems l) (by rw [mems_len,hm,Nat.mul_one]) hr (mems_flatL l) (by unfold maxLen;omega) (by omega) hbase
 rw [show mems xs ++ mems l=mems (xs ++ l) by simp [mems]] at this
 exact this
def OwnsM (w w':World) (v:Value) (n:Nat) (m:List Int):Prop:=∃ g c,v=.slice (some ⟨g,0,none⟩) n c∧MemAt w' w.heap.size g n c m∧Ext w w'
theorem ownM_of {w w':World} {v:Value} {n:Nat} {m:List Int} (h:w'.ownsRow w.heap.size 21 1 v n (mems m)) (hn:0 < n) (hx:Ext w w'):OwnsM w w' v n m:=by
 rcases h.2 with ⟨_,h0⟩ | ⟨g,c,cur,hv,r⟩
 ·omega
 ·subst hv
  exact ⟨g,c,rfl,h,hx⟩
set_option maxRecDepth 100000 in
theorem mclone_any (b off cap:Nat) (l:List Int) (n:Nat) (hn:n=l.length) (h1:1≤n) (h2:n≤4096) (w:World) (hr:Row w b off (mems l)) :
 Calls Tryz.prog 66 #[.slice (some ⟨b,off,none⟩) n cap] w fun e w'=>∃ v,e=.returned v∧OwnsM w w' v n l:=by
 obtain ⟨v2,w2,hr2,ho2,hk2⟩:=appM (w.alloc (.cells #[] 21)) _ _ 0 [] (own_new w 21 1) b off n cap l hn (hr.ext ((Kept.refl _ w).alloc _)) (by omega) (by simp)
 have HN:=zhd hn
 clear hn
 have heq:=fun w=>Lib.run_eql_slice_nil (P:=Tryz.prog) w 27 21 (some ⟨b,off,none⟩) n cap 0 0 Tryz.underlying27
 simp only [Option.isNone_some] at heq
 go_enter Tryz.func66,Tryz.ntmps66
 go_upto_region 3 with (fail)
 go_step
 iterate 2 refine qls ?_
 refine wpList_app rfl (.tmp 5) (.tmp 6) 27 rfl rfl rfl rfl hr2 ?_
 clear hr2
 go_wp2_with fail
 go_ret
 rw [Nat.zero_add,List.nil_append] at ho2
 exact ⟨_,rfl,ownM_of ho2 h1 (((Kept.refl _ w).alloc _).trans' hk2 (fun i hi e=>by simp [Value.ownBlock] at e;omega))⟩
def OwnsS (w w':World) (v:Value) (n:Nat) (pc halt:Int) (m:List Int):Prop:=∃ g c,v=.agg (stCells pc (some ⟨g,0,none⟩) n c halt)∧MemAt w' w.heap.size g n c m∧Ext w w'
set_option maxRecDepth 100000 in
theorem sclone_any (pc halt:Int) (b off cap:Nat) (l:List Int) (n:Nat) (hn:n=l.length) (h1:1≤n) (h2:n≤4096) (w:World) (hr:Row w b off (mems l)) :
 Calls Tryz.prog 60 #[.agg (stCells pc (some ⟨b,off,none⟩) n cap halt)] w fun e w'=>∃ v,e=.returned v∧OwnsS w w' v n pc halt l:=by
 have HN:=zhd hn
 clear hn
 have hx0:Ext w _:=((Kept.refl _ w).alloc (.cells (stCells pc (some ⟨b,off,none⟩) n cap halt) 49)).alloc (.cells (stCells 0 none 0 0 0) 49)
 have hA0:Blk _ w.heap.size 49 (stCells pc (some ⟨b,off,none⟩) n cap halt):=Blk.alloc (Blk.new w _ _) (.cells (stCells 0 none 0 0 0) 49)
 have hR0:Blk _ (w.heap.size+1) 49 (stCells 0 none 0 0 0):=Blk.new' (w.alloc (.cells (stCells pc (some ⟨b,off,none⟩) n cap halt) 49)) _ _ _ (by simp)
 have hrow:=hr.ext hx0
 have hs0:=hx0.size
 go_enter Tryz.func60,Tryz.ntmps60
 go_wp2_with fail
 refine (mclone_any b off cap l n HN.out h1 h2 _ hrow).mono ?_
 rintro e w1 ⟨v1,rfl,g,c1,rfl,hM1,hx1⟩
 have hA1:=Blk.ext hA0 hx1
 have hR1:=Blk.ext hR0 hx1
 have hc1:=Blk.cell hA1
 have hf1:=Blk.frozen hA1
 have hg1:=hM1.inv.2
 obtain ⟨_,hgb,_⟩:=hg1
 have lA:=hA0.lt
 have lR:=hR0.lt
 have hA2:Blk (w1.setCell ⟨w.heap.size,1,none⟩ (.slice (some ⟨g,0,none⟩) n c1)) w.heap.size 49 (stCells pc (some ⟨g,0,none⟩) n c1 halt):=Blk.set_ hA1 1 (.slice (some ⟨g,0,none⟩) n c1)
 have hR2:=Blk.far hR1 (p:=⟨w.heap.size,1,none⟩) (show w.heap.size+1 ≠ w.heap.size by omega) (.slice (some ⟨g,0,none⟩) n c1)
 have hM2:=hM1.far (p:=⟨w.heap.size,1,none⟩) (show ¬ g=w.heap.size by omega) (.slice (some ⟨g,0,none⟩) n c1)
 have y2:Ext w (w1.setCell ⟨w.heap.size,1,none⟩ (.slice (some ⟨g,0,none⟩) n c1)):=Kept.setCell (hx0.trans hx1) ⟨w.heap.size,1,none⟩ _ (fun h=>by have:w.heap.size < w.heap.size:=h;omega)
 go_upto_region 2 with (fail)
 clear hA0 hR0 hA1 hR1 hc1 hf1 hM1
 generalize (w1.setCell ⟨w.heap.size,1,none⟩ (.slice (some ⟨g,0,none⟩) n c1))=W2 at hA2 hR2 hM2 y2 ⊢
 have i1:=Blk.has hA2
 have i2:=Blk.gets hA2
 have i3:=Blk.has hR2
 have i4:=Blk.melts hR2
 go_wp2_with fail
 refine ret_cell Tryz.results60 rfl rfl aggMst (by exact sizeMst) (Blk.put_ hR2 _ _) ⟨_,rfl,g,c1,rfl,?_,Kept.putAt y2 _ _ _ (fun h=>by omega)⟩
 exact (own_mono (hM2.kept (Kept.putAt (S:=(·=w.heap.size+1)) (Kept.refl _ _) _ _ _ (fun _=>rfl)) (by omega)) (by omega))
open Go.RowKit
theorem MemAt.ge {w:World} {base g n kc:Nat} {m:List Int} (h:MemAt w base g n kc m):base≤g:=by
 obtain ⟨_,_,hb,_⟩:=h.inv
 exact hb
def runI (c:List Ins) (pc halt:Int) (m:List Int):Int × Int × List Int:=if halt=0 then stepI c pc m else (pc,halt,m)
theorem ret_cii {P:Program} {fn:Func} {R:Ending→World→Prop} {a:Act} {w:World} {p j k:Tmp} {ty t:TypeId} {g:Nat} {cs:Array Value}
 (hres:fn.results=#[.cell p ty,.tmp j,.tmp k]) (hd:a.defers=[]) (hp:a.tmps.getD p undef=.pointer (some ⟨g,0,none⟩)) (ha:aggT P ty=true) (hs:sizeT P ty=some cs.size) (hb:Blk w g t cs)
 (hR:R (.returned (.tuple #[.agg cs,a.tmps.getD j undef,a.tmps.getD k undef])) w):bodyPost P fn R .ret a w:=by
 exact zz83
structure RunPre (w:World) (A:Option Addr) (b off cn:Nat) (c:List Ins) (b' off' n:Nat) (pc halt:Int) (m:List Int):Prop where
 ops:OpsAt w
 cA:0 < cn→A=some ⟨b,off,none⟩
 row:0 < cn→Row w b off (inss c)
 cn_eq:cn=c.length
 cn2:cn≤2048
 n_eq:n=m.length
 right:rightS pc halt n=true
 mok:∀ x ∈ m,i32ok x
 mrow:Row w b' off' (mems m)
theorem RunPre.ext {w w':World} {A:Option Addr} {b off cn:Nat} {c:List Ins} {b' off' n:Nat} {pc halt:Int} {m:List Int} (h:RunPre w A b off cn c b' off' n pc halt m) (hx:Ext w w'):RunPre w' A b off cn c b' off' n pc halt m :=
 ⟨h.ops.ext hx,h.cA,fun h0=>(h.row h0).ext hx,h.cn_eq,h.cn2,h.n_eq,h.right,h.mok,h.mrow.ext hx⟩
set_option maxRecDepth 100000 in
theorem right_any (pc halt:Int) (A:Option Addr) (n cap:Nat) (w:World) :
 Calls Tryz.prog 61 #[.agg (stCells pc A n cap halt)] w fun e w'=>e=.returned (.bool (rightS pc halt n))∧Ext w w':=by
 have hx0:Ext w _:=(Kept.refl _ w).alloc (.cells (stCells pc A n cap halt) 49)
 go_enter Tryz.func61,Tryz.ntmps61
 go_wp2_with fail
 all_goals go_ret
 all_goals refine ⟨?_,hx0⟩
 all_goals simp [rightS]
 all_goals (intros;omega)
open Go.RowKit
theorem getX_ok {m:List Int} (h:∀ z ∈ m,i32ok z) (k:Nat):i32ok (m.getD k 0):=by
 by_cases hk:k < m.length
 ·simp [hk];exact h _ (List.getElem_mem hk)
 ·simp [hk];unfold i32ok;omega
theorem op_nat {i:Ins} (h:isOp i.op=true):∃ k:Nat,k < 22∧i.op=k:=by
 simp [isOp] at h
 exact ⟨i.op.toNat,by omega,by omega⟩
theorem putE_ok {m:List Int} {x v:Int} (hm:∀ z ∈ m,i32ok z) (hv:i32ok v):∀ z ∈ mput m x v,i32ok z:=fun z hz=>by
 rcases List.mem_or_eq_of_mem_set hz with h | h
 ·exact hm z h
 ·rw [h];exact hv
theorem getE_ok {m:List Int} {x:Int} (hm:∀ z ∈ m,i32ok z):i32ok (mget m x):=getX_ok hm _
theorem truth_ok (b:Bool):i32ok (truthI b):=by cases b <;> simp [truthI,i32ok]
theorem wrap32_ok (x:Int):i32ok (IntKind.i32.wrap x):=by
 unfold i32ok
 simp only [IntKind.wrap,IntKind.signed,IntKind.bits]
 simp
 omega
theorem two_ok (k:Nat) {b c:Int} (hb:i32ok b) (_hc:i32ok c):i32ok (twoI k b c):=by
 have h0:i32ok 0:=by unfold i32ok;omega
 unfold twoI
 split
 ·exact wrap32_ok _
 ·exact wrap32_ok _
 ·exact wrap32_ok _
 ·split
  ·exact h0
  ·exact wrap32_ok _
 ·split
  ·exact h0
  ·unfold i32ok at hb ⊢
   rename_i hc0
   have h2:(b.tmod c).natAbs≤b.natAbs:=by rw [Int.natAbs_tmod];exact Nat.mod_le _ _
   rcases Int.lt_or_le b 0 with hn | hn
   ·have:=Int.tmod_nonneg (a:=-b) c (by omega);rw [Int.neg_tmod] at this;omega
   ·have:=Int.tmod_nonneg c hn;omega
 all_goals exact truth_ok _
structure Okay (pc halt:Int) (m:List Int):Prop where
 right:rightS pc halt m.length=true
 mok:∀ z ∈ m,i32ok z
theorem Okay.mk' {pc halt:Int} {m:List Int} (k:Nat) (hk:k=m.length) (h1:1≤k) (h2:k≤256) (p0:0≤pc) (p1:pc≤2048) (a0:0≤halt) (a1:halt≤2) (hm:∀ z ∈ m,i32ok z):Okay pc halt m :=
 ⟨by subst hk;simp [rightS];omega,hm⟩
theorem put_len (m:List Int) (x v:Int):(mput m x v).length=m.length:=by simp [mput]
theorem exec_okay {i:Ins} {pc:Int} {n:Nat} {m:List Int} (hr:rightI i n m.length=true) (hn:n≤2048) (h:Okay pc 0 m) (hp:pc < n):Okay (execI i pc m).1 (execI i pc m).2.1 (execI i pc m).2.2∧(execI i pc m).2.2.length=m.length:=by
 obtain ⟨h1,h2,h3,h4,_,_⟩:=rightS_inv h.right
 obtain ⟨o0,o1,ha,hb,hc,he⟩:=rightI_parts hr
 obtain ⟨k,hk,hop⟩:=op_nat (i:=i) (by simp [isOp];omega)
 have hnn:i.op.toNat=k:=by omega
 rw [hnn] at ha hb hc
 have put:∀ (x v:Int),i32ok v→Okay (pc+1) 0 (mput m x v)∧(mput m x v).length=m.length:=fun x v hv =>
  ⟨Okay.mk' m.length (put_len m x v).symm h1 h2 (by omega) (by omega) (by omega) (by omega) (putE_ok h.mok hv),put_len m x v⟩
 have go:∀ q:Int,0≤q→q≤2048→Okay q 0 m∧m.length=m.length:=fun q q0 q1=>⟨Okay.mk' m.length rfl h1 h2 q0 q1 (by omega) (by omega) h.mok,rfl⟩
 obtain ⟨r,hx⟩:∃ r,execI i pc m=r:=⟨_,rfl⟩
 rw [hx]
 delta execI at hx
 by_cases e0:i.op=0
 ·rw [if_pos e0] at hx
  subst hx
  simp [rightE,e0] at he
  exact ⟨Okay.mk' m.length rfl h1 h2 h3 h4 (by simp only;omega) (by simp only;omega) h.mok,rfl⟩
 rw [if_neg e0] at hx
 by_cases e1:i.op=1
 ·rw [if_pos e1] at hx
  subst hx
  have ek:k=1:=by omega
  subst ek
  exact put _ _ (okP_n (k:=1) rfl hb)
 rw [if_neg e1] at hx
 by_cases e2:i.op=2
 ·rw [if_pos e2] at hx
  subst hx
  exact put _ _ (getE_ok h.mok)
 rw [if_neg e2] at hx
 by_cases e14:i.op=14
 ·rw [if_pos e14] at hx
  subst hx
  exact put _ _ (truth_ok _)
 rw [if_neg e14] at hx
 by_cases e15:i.op=15
 ·rw [if_pos e15] at hx
  subst hx
  exact put _ _ (getE_ok h.mok)
 rw [if_neg e15] at hx
 by_cases e16:i.op=16
 ·rw [if_pos e16] at hx
  subst hx
  exact put _ _ (getE_ok h.mok)
 rw [if_neg e16] at hx
 by_cases e17:i.op=17
 ·rw [if_pos e17] at hx
  subst hx
  have ek:k=17:=by omega
  subst ek
  have q0:=okP_n (k:=1) rfl hb
  have q1:=okP_n (k:=2) rfl hc
  have q2:=getE_ok (x:=i.a) h.mok
  refine put _ _ ?_
  unfold i32ok at q2 ⊢
  omega
 rw [if_neg e17] at hx
 by_cases e18:i.op=18
 ·rw [if_pos e18] at hx
  subst hx
  exact put _ _ (truth_ok _)
 rw [if_neg e18] at hx
 by_cases e19:i.op=19
 ·rw [if_pos e19] at hx
  subst hx
  have ek:k=19:=by omega
  subst ek
  have q0:=okP_p (k:=0) rfl ha
  exact go _ (by omega) (by omega)
 rw [if_neg e19] at hx
 by_cases e20:i.op=20
 ·rw [if_pos e20] at hx
  subst hx
  have ek:k=20:=by omega
  subst ek
  have q0:=okP_p (k:=0) rfl ha
  by_cases ez:mget m i.b=0
  ·rw [if_pos ez];exact go _ (by omega) (by omega)
  ·rw [if_neg ez];exact go _ (by omega) (by omega)
 rw [if_neg e20] at hx
 by_cases e21:i.op=21
 ·rw [if_pos e21] at hx
  subst hx
  have ek:k=21:=by omega
  subst ek
  have q0:=okP_p (k:=0) rfl ha
  by_cases ez:mget m i.b=0
  ·rw [if_pos ez];exact go _ (by omega) (by omega)
  ·rw [if_neg ez];exact go _ (by omega) (by omega)
 rw [if_neg e21] at hx
 subst hx
 exact put _ _ (two_ok _ (getE_ok h.mok) (getE_ok h.mok))
theorem step_okay {c:List Ins} {pc:Int} {m:List Int} (hc:c.length≤2048) (h:Okay pc 0 m):Okay (stepI c pc m).1 (stepI c pc m).2.1 (stepI c pc m).2.2∧(stepI c pc m).2.2.length=m.length:=by
 obtain ⟨h1,h2,h3,h4,_,_⟩:=rightS_inv h.right
 have no:Okay pc 2 m∧m.length=m.length:=⟨Okay.mk' m.length rfl h1 h2 h3 h4 (by omega) (by omega) h.mok,rfl⟩
 unfold stepI
 cases hn:nextI c pc m.length with
 | none=>exact no
 | some i =>
  simp only
  split
  ·exact no
  ·refine exec_okay (nextI_right hn) hc h ?_
   unfold nextI at hn
   split at hn
   ·rename_i hg
    have:=(List.getElem?_eq_some_iff.1 hg).1
    omega
   ·cases hn
theorem run_okay {c:List Ins} {pc halt:Int} {m:List Int} (hc:c.length≤2048) (h:Okay pc halt m):Okay (runI c pc halt m).1 (runI c pc halt m).2.1 (runI c pc halt m).2.2∧(runI c pc halt m).2.2.length=m.length:=by
 unfold runI
 by_cases h0:halt=0
 ·rw [if_pos h0];subst h0;exact step_okay hc h
 ·rw [if_neg h0];exact ⟨h,rfl⟩
end Go.Proofs.YtbfbabbcdochjaaGreatDoor.Mc
