/- Several texts joined: Allo. -/
import Derived.Test.YtbfbabbcdochjaaGreatDoorRapk
import Derived.Test.YtbfbabbcdochjaaGreatDoorRaaa
set_option maxHeartbeats 4000000
namespace Go.Proofs.YtbfbabbcdochjaaGreatDoor
open Go.RowKit
section
variable {w:World} {off n g:Nat} {vs:Array Value}
@[go_sem high] theorem has_new_2_0 {o0 o1:Obj}:has ((w.alloc o0).alloc o1) (w.heap.size) off n=has (w.alloc o0) (w.heap.size) off n:=by
 have h:((w.alloc o0).alloc o1).heap[w.heap.size]?=(w.alloc o0).heap[w.heap.size]?:=by
  rw [Below.heap_alloc _ _ _ (by simp <;> omega)]
 unfold has;rw [h]
@[go_sem high] theorem gets_new_2_0 {o0 o1:Obj}:gets ((w.alloc o0).alloc o1) (w.heap.size) off n=gets (w.alloc o0) (w.heap.size) off n:=by
 have h:((w.alloc o0).alloc o1).heap[w.heap.size]?=(w.alloc o0).heap[w.heap.size]?:=by
  rw [Below.heap_alloc _ _ _ (by simp <;> omega)]
 unfold gets;rw [h]
@[go_sem high] theorem melts_new_2_0 {o0 o1:Obj}:melts ((w.alloc o0).alloc o1) (w.heap.size) =melts (w.alloc o0) (w.heap.size) :=by
 have h:((w.alloc o0).alloc o1).heap[w.heap.size]?=(w.alloc o0).heap[w.heap.size]?:=by
  rw [Below.heap_alloc _ _ _ (by simp <;> omega)]
 unfold melts;rw [h]
@[go_sem high] theorem putAt_new_2_0 {o0 o1:Obj}:putAt ((w.alloc o0).alloc o1) (w.heap.size) off vs=((putAt (w.alloc o0) (w.heap.size) off vs).alloc o1):=by
 rw [putAt_alloc_past _ (by simp <;> omega)]
@[go_sem high] theorem has_new_3_0 {o0 o1 o2:Obj}:has (((w.alloc o0).alloc o1).alloc o2) (w.heap.size) off n=has (w.alloc o0) (w.heap.size) off n:=by
 have h:(((w.alloc o0).alloc o1).alloc o2).heap[w.heap.size]?=(w.alloc o0).heap[w.heap.size]?:=by
  exact zz92
 unfold has;rw [h]
@[go_sem high] theorem gets_new_3_0 {o0 o1 o2:Obj}:gets (((w.alloc o0).alloc o1).alloc o2) (w.heap.size) off n=gets (w.alloc o0) (w.heap.size) off n:=by
 have h:(((w.alloc o0).alloc o1).alloc o2).heap[w.heap.size]?=(w.alloc o0).heap[w.heap.size]?:=by
  exact zz92
 unfold gets;rw [h]
@[go_sem high] theorem melts_new_3_0 {o0 o1 o2:Obj}:melts (((w.alloc o0).alloc o1).alloc o2) (w.heap.size) =melts (w.alloc o0) (w.heap.size) :=by
 have h:(((w.alloc o0).alloc o1).alloc o2).heap[w.heap.size]?=(w.alloc o0).heap[w.heap.size]?:=by
  exact zz92
 unfold melts;rw [h]
@[go_sem high] theorem putAt_new_3_0 {o0 o1 o2:Obj}:putAt (((w.alloc o0).alloc o1).alloc o2) (w.heap.size) off vs=(((putAt (w.alloc o0) (w.heap.size) off vs).alloc o1).alloc o2):=by
 exact zz96
@[go_sem high] theorem has_new_3_1 {o0 o1 o2:Obj}:has (((w.alloc o0).alloc o1).alloc o2) (w.heap.size+1) off n=has ((w.alloc o0).alloc o1) (w.heap.size+1) off n:=by
 have h:(((w.alloc o0).alloc o1).alloc o2).heap[w.heap.size+1]?=((w.alloc o0).alloc o1).heap[w.heap.size+1]?:=by
  rw [Below.heap_alloc _ _ _ (by simp <;> omega)]
 unfold has;rw [h]
@[go_sem high] theorem gets_new_3_1 {o0 o1 o2:Obj}:gets (((w.alloc o0).alloc o1).alloc o2) (w.heap.size+1) off n=gets ((w.alloc o0).alloc o1) (w.heap.size+1) off n:=by
 have h:(((w.alloc o0).alloc o1).alloc o2).heap[w.heap.size+1]?=((w.alloc o0).alloc o1).heap[w.heap.size+1]?:=by
  rw [Below.heap_alloc _ _ _ (by simp <;> omega)]
 unfold gets;rw [h]
@[go_sem high] theorem melts_new_3_1 {o0 o1 o2:Obj}:melts (((w.alloc o0).alloc o1).alloc o2) (w.heap.size+1) =melts ((w.alloc o0).alloc o1) (w.heap.size+1) :=by
 have h:(((w.alloc o0).alloc o1).alloc o2).heap[w.heap.size+1]?=((w.alloc o0).alloc o1).heap[w.heap.size+1]?:=by
  rw [Below.heap_alloc _ _ _ (by simp <;> omega)]
 unfold melts;rw [h]
@[go_sem high] theorem putAt_new_3_1 {o0 o1 o2:Obj}:putAt (((w.alloc o0).alloc o1).alloc o2) (w.heap.size+1) off vs=((putAt ((w.alloc o0).alloc o1) (w.heap.size+1) off vs).alloc o2):=by
 rw [putAt_alloc_past _ (by simp <;> omega)]
@[go_sem high] theorem has_new_4_0 {o0 o1 o2 o3:Obj}:has ((((w.alloc o0).alloc o1).alloc o2).alloc o3) (w.heap.size) off n=has (w.alloc o0) (w.heap.size) off n:=by
 have h:((((w.alloc o0).alloc o1).alloc o2).alloc o3).heap[w.heap.size]?=(w.alloc o0).heap[w.heap.size]?:=by
  exact zz85
 unfold has;rw [h]
@[go_sem high] theorem gets_new_4_0 {o0 o1 o2 o3:Obj}:gets ((((w.alloc o0).alloc o1).alloc o2).alloc o3) (w.heap.size) off n=gets (w.alloc o0) (w.heap.size) off n:=by
 have h:((((w.alloc o0).alloc o1).alloc o2).alloc o3).heap[w.heap.size]?=(w.alloc o0).heap[w.heap.size]?:=by
  exact zz85
 unfold gets;rw [h]
@[go_sem high] theorem melts_new_4_0 {o0 o1 o2 o3:Obj}:melts ((((w.alloc o0).alloc o1).alloc o2).alloc o3) (w.heap.size) =melts (w.alloc o0) (w.heap.size) :=by
 have h:((((w.alloc o0).alloc o1).alloc o2).alloc o3).heap[w.heap.size]?=(w.alloc o0).heap[w.heap.size]?:=by
  exact zz85
 unfold melts;rw [h]
@[go_sem high] theorem putAt_new_4_0 {o0 o1 o2 o3:Obj}:putAt ((((w.alloc o0).alloc o1).alloc o2).alloc o3) (w.heap.size) off vs=((((putAt (w.alloc o0) (w.heap.size) off vs).alloc o1).alloc o2).alloc o3):=by
 exact zz88
@[go_sem high] theorem has_new_4_1 {o0 o1 o2 o3:Obj}:has ((((w.alloc o0).alloc o1).alloc o2).alloc o3) (w.heap.size+1) off n=has ((w.alloc o0).alloc o1) (w.heap.size+1) off n:=by
 have h:((((w.alloc o0).alloc o1).alloc o2).alloc o3).heap[w.heap.size+1]?=((w.alloc o0).alloc o1).heap[w.heap.size+1]?:=by
  exact zz92
 unfold has;rw [h]
@[go_sem high] theorem gets_new_4_1 {o0 o1 o2 o3:Obj}:gets ((((w.alloc o0).alloc o1).alloc o2).alloc o3) (w.heap.size+1) off n=gets ((w.alloc o0).alloc o1) (w.heap.size+1) off n:=by
 have h:((((w.alloc o0).alloc o1).alloc o2).alloc o3).heap[w.heap.size+1]?=((w.alloc o0).alloc o1).heap[w.heap.size+1]?:=by
  exact zz92
 unfold gets;rw [h]
@[go_sem high] theorem melts_new_4_1 {o0 o1 o2 o3:Obj}:melts ((((w.alloc o0).alloc o1).alloc o2).alloc o3) (w.heap.size+1) =melts ((w.alloc o0).alloc o1) (w.heap.size+1) :=by
 have h:((((w.alloc o0).alloc o1).alloc o2).alloc o3).heap[w.heap.size+1]?=((w.alloc o0).alloc o1).heap[w.heap.size+1]?:=by
  exact zz92
 unfold melts;rw [h]
@[go_sem high] theorem putAt_new_4_1 {o0 o1 o2 o3:Obj}:putAt ((((w.alloc o0).alloc o1).alloc o2).alloc o3) (w.heap.size+1) off vs=(((putAt ((w.alloc o0).alloc o1) (w.heap.size+1) off vs).alloc o2).alloc o3):=by
 exact zz96
@[go_sem high] theorem has_new_4_2 {o0 o1 o2 o3:Obj}:has ((((w.alloc o0).alloc o1).alloc o2).alloc o3) (w.heap.size+1+1) off n=has (((w.alloc o0).alloc o1).alloc o2) (w.heap.size+1+1) off n:=by
 have h:((((w.alloc o0).alloc o1).alloc o2).alloc o3).heap[w.heap.size+1+1]?=(((w.alloc o0).alloc o1).alloc o2).heap[w.heap.size+1+1]?:=by
  rw [Below.heap_alloc _ _ _ (by simp <;> omega)]
 unfold has;rw [h]
@[go_sem high] theorem gets_new_4_2 {o0 o1 o2 o3:Obj}:gets ((((w.alloc o0).alloc o1).alloc o2).alloc o3) (w.heap.size+1+1) off n=gets (((w.alloc o0).alloc o1).alloc o2) (w.heap.size+1+1) off n:=by
 have h:((((w.alloc o0).alloc o1).alloc o2).alloc o3).heap[w.heap.size+1+1]?=(((w.alloc o0).alloc o1).alloc o2).heap[w.heap.size+1+1]?:=by
  rw [Below.heap_alloc _ _ _ (by simp <;> omega)]
 unfold gets;rw [h]
@[go_sem high] theorem melts_new_4_2 {o0 o1 o2 o3:Obj}:melts ((((w.alloc o0).alloc o1).alloc o2).alloc o3) (w.heap.size+1+1) =melts (((w.alloc o0).alloc o1).alloc o2) (w.heap.size+1+1) :=by
 have h:((((w.alloc o0).alloc o1).alloc o2).alloc o3).heap[w.heap.size+1+1]?=(((w.alloc o0).alloc o1).alloc o2).heap[w.heap.size+1+1]?:=by
  rw [Below.heap_alloc _ _ _ (by simp <;> omega)]
 unfold melts;rw [h]
@[go_sem high] theorem putAt_new_4_2 {o0 o1 o2 o3:Obj}:putAt ((((w.alloc o0).alloc o1).alloc o2).alloc o3) (w.heap.size+1+1) off vs=((putAt (((w.alloc o0).alloc o1).alloc o2) (w.heap.size+1+1) off vs).alloc o3):=by
 rw [putAt_alloc_past _ (by simp <;> omega)]
@[go_sem high] theorem has_new_5_0 {o0 o1 o2 o3 o4:Obj}:has (((((w.alloc o0).alloc o1).alloc o2).alloc o3).alloc o4) (w.heap.size) off n=has (w.alloc o0) (w.heap.size) off n:=by
 have h:(((((w.alloc o0).alloc o1).alloc o2).alloc o3).alloc o4).heap[w.heap.size]?=(w.alloc o0).heap[w.heap.size]?:=by
  exact zz78
 unfold has;rw [h]
@[go_sem high] theorem gets_new_5_0 {o0 o1 o2 o3 o4:Obj}:gets (((((w.alloc o0).alloc o1).alloc o2).alloc o3).alloc o4) (w.heap.size) off n=gets (w.alloc o0) (w.heap.size) off n:=by
 have h:(((((w.alloc o0).alloc o1).alloc o2).alloc o3).alloc o4).heap[w.heap.size]?=(w.alloc o0).heap[w.heap.size]?:=by
  exact zz78
 unfold gets;rw [h]
@[go_sem high] theorem melts_new_5_0 {o0 o1 o2 o3 o4:Obj}:melts (((((w.alloc o0).alloc o1).alloc o2).alloc o3).alloc o4) (w.heap.size) =melts (w.alloc o0) (w.heap.size) :=by
 have h:(((((w.alloc o0).alloc o1).alloc o2).alloc o3).alloc o4).heap[w.heap.size]?=(w.alloc o0).heap[w.heap.size]?:=by
  exact zz78
 unfold melts;rw [h]
@[go_sem high] theorem putAt_new_5_0 {o0 o1 o2 o3 o4:Obj}:putAt (((((w.alloc o0).alloc o1).alloc o2).alloc o3).alloc o4) (w.heap.size) off vs=(((((putAt (w.alloc o0) (w.heap.size) off vs).alloc o1).alloc o2).alloc o3).alloc o4):=by
 rw [putAt_alloc_past _ (by simp <;> omega)];rw [putAt_alloc_past _ (by simp <;> omega)];rw [putAt_alloc_past _ (by simp <;> omega)];rw [putAt_alloc_past _ (by simp <;> omega)]
@[go_sem high] theorem has_new_5_1 {o0 o1 o2 o3 o4:Obj}:has (((((w.alloc o0).alloc o1).alloc o2).alloc o3).alloc o4) (w.heap.size+1) off n=has ((w.alloc o0).alloc o1) (w.heap.size+1) off n:=by
 have h:(((((w.alloc o0).alloc o1).alloc o2).alloc o3).alloc o4).heap[w.heap.size+1]?=((w.alloc o0).alloc o1).heap[w.heap.size+1]?:=by
  exact zz85
 unfold has;rw [h]
@[go_sem high] theorem gets_new_5_1 {o0 o1 o2 o3 o4:Obj}:gets (((((w.alloc o0).alloc o1).alloc o2).alloc o3).alloc o4) (w.heap.size+1) off n=gets ((w.alloc o0).alloc o1) (w.heap.size+1) off n:=by
 have h:(((((w.alloc o0).alloc o1).alloc o2).alloc o3).alloc o4).heap[w.heap.size+1]?=((w.alloc o0).alloc o1).heap[w.heap.size+1]?:=by
  exact zz85
 unfold gets;rw [h]
@[go_sem high] theorem melts_new_5_1 {o0 o1 o2 o3 o4:Obj}:melts (((((w.alloc o0).alloc o1).alloc o2).alloc o3).alloc o4) (w.heap.size+1) =melts ((w.alloc o0).alloc o1) (w.heap.size+1) :=by
 have h:(((((w.alloc o0).alloc o1).alloc o2).alloc o3).alloc o4).heap[w.heap.size+1]?=((w.alloc o0).alloc o1).heap[w.heap.size+1]?:=by
  exact zz85
 unfold melts;rw [h]
@[go_sem high] theorem putAt_new_5_1 {o0 o1 o2 o3 o4:Obj}:putAt (((((w.alloc o0).alloc o1).alloc o2).alloc o3).alloc o4) (w.heap.size+1) off vs=((((putAt ((w.alloc o0).alloc o1) (w.heap.size+1) off vs).alloc o2).alloc o3).alloc o4):=by
 exact zz88
@[go_sem high] theorem has_new_5_2 {o0 o1 o2 o3 o4:Obj}:has (((((w.alloc o0).alloc o1).alloc o2).alloc o3).alloc o4) (w.heap.size+1+1) off n=has (((w.alloc o0).alloc o1).alloc o2) (w.heap.size+1+1) off n:=by
 have h:(((((w.alloc o0).alloc o1).alloc o2).alloc o3).alloc o4).heap[w.heap.size+1+1]?=(((w.alloc o0).alloc o1).alloc o2).heap[w.heap.size+1+1]?:=by
  exact zz92
 unfold has;rw [h]
@[go_sem high] theorem gets_new_5_2 {o0 o1 o2 o3 o4:Obj}:gets (((((w.alloc o0).alloc o1).alloc o2).alloc o3).alloc o4) (w.heap.size+1+1) off n=gets (((w.alloc o0).alloc o1).alloc o2) (w.heap.size+1+1) off n:=by
 have h:(((((w.alloc o0).alloc o1).alloc o2).alloc o3).alloc o4).heap[w.heap.size+1+1]?=(((w.alloc o0).alloc o1).alloc o2).heap[w.heap.size+1+1]?:=by
  exact zz92
 unfold gets;rw [h]
@[go_sem high] theorem melts_new_5_2 {o0 o1 o2 o3 o4:Obj}:melts (((((w.alloc o0).alloc o1).alloc o2).alloc o3).alloc o4) (w.heap.size+1+1) =melts (((w.alloc o0).alloc o1).alloc o2) (w.heap.size+1+1) :=by
 have h:(((((w.alloc o0).alloc o1).alloc o2).alloc o3).alloc o4).heap[w.heap.size+1+1]?=(((w.alloc o0).alloc o1).alloc o2).heap[w.heap.size+1+1]?:=by
  exact zz92
 unfold melts;rw [h]
@[go_sem high] theorem putAt_new_5_2 {o0 o1 o2 o3 o4:Obj}:putAt (((((w.alloc o0).alloc o1).alloc o2).alloc o3).alloc o4) (w.heap.size+1+1) off vs=(((putAt (((w.alloc o0).alloc o1).alloc o2) (w.heap.size+1+1) off vs).alloc o3).alloc o4):=by
 exact zz96
@[go_sem high] theorem has_new_5_3 {o0 o1 o2 o3 o4:Obj}:has (((((w.alloc o0).alloc o1).alloc o2).alloc o3).alloc o4) (w.heap.size+1+1+1) off n=has ((((w.alloc o0).alloc o1).alloc o2).alloc o3) (w.heap.size+1+1+1) off n:=by
 have h:(((((w.alloc o0).alloc o1).alloc o2).alloc o3).alloc o4).heap[w.heap.size+1+1+1]?=((((w.alloc o0).alloc o1).alloc o2).alloc o3).heap[w.heap.size+1+1+1]?:=by
  rw [Below.heap_alloc _ _ _ (by simp <;> omega)]
 unfold has;rw [h]
@[go_sem high] theorem gets_new_5_3 {o0 o1 o2 o3 o4:Obj}:gets (((((w.alloc o0).alloc o1).alloc o2).alloc o3).alloc o4) (w.heap.size+1+1+1) off n=gets ((((w.alloc o0).alloc o1).alloc o2).alloc o3) (w.heap.size+1+1+1) off n:=by
 have h:(((((w.alloc o0).alloc o1).alloc o2).alloc o3).alloc o4).heap[w.heap.size+1+1+1]?=((((w.alloc o0).alloc o1).alloc o2).alloc o3).heap[w.heap.size+1+1+1]?:=by
  rw [Below.heap_alloc _ _ _ (by simp <;> omega)]
 unfold gets;rw [h]
@[go_sem high] theorem melts_new_5_3 {o0 o1 o2 o3 o4:Obj}:melts (((((w.alloc o0).alloc o1).alloc o2).alloc o3).alloc o4) (w.heap.size+1+1+1) =melts ((((w.alloc o0).alloc o1).alloc o2).alloc o3) (w.heap.size+1+1+1) :=by
 have h:(((((w.alloc o0).alloc o1).alloc o2).alloc o3).alloc o4).heap[w.heap.size+1+1+1]?=((((w.alloc o0).alloc o1).alloc o2).alloc o3).heap[w.heap.size+1+1+1]?:=by
  rw [Below.heap_alloc _ _ _ (by simp <;> omega)]
 unfold melts;rw [h]
@[go_sem high] theorem putAt_new_5_3 {o0 o1 o2 o3 o4:Obj}:putAt (((((w.alloc o0).alloc o1).alloc o2).alloc o3).alloc o4) (w.heap.size+1+1+1) off vs=((putAt ((((w.alloc o0).alloc o1).alloc o2).alloc o3) (w.heap.size+1+1+1) off vs).alloc o4):=by
 rw [putAt_alloc_past _ (by simp <;> omega)]
@[go_sem high] theorem has_new_6_0 {o0 o1 o2 o3 o4 o5:Obj}:has ((((((w.alloc o0).alloc o1).alloc o2).alloc o3).alloc o4).alloc o5) (w.heap.size) off n=has (w.alloc o0) (w.heap.size) off n:=by
 have h:((((((w.alloc o0).alloc o1).alloc o2).alloc o3).alloc o4).alloc o5).heap[w.heap.size]?=(w.alloc o0).heap[w.heap.size]?:=by
  exact zz63
 unfold has;rw [h]
@[go_sem high] theorem gets_new_6_0 {o0 o1 o2 o3 o4 o5:Obj}:gets ((((((w.alloc o0).alloc o1).alloc o2).alloc o3).alloc o4).alloc o5) (w.heap.size) off n=gets (w.alloc o0) (w.heap.size) off n:=by
 have h:((((((w.alloc o0).alloc o1).alloc o2).alloc o3).alloc o4).alloc o5).heap[w.heap.size]?=(w.alloc o0).heap[w.heap.size]?:=by
  exact zz63
 unfold gets;rw [h]
@[go_sem high] theorem melts_new_6_0 {o0 o1 o2 o3 o4 o5:Obj}:melts ((((((w.alloc o0).alloc o1).alloc o2).alloc o3).alloc o4).alloc o5) (w.heap.size) =melts (w.alloc o0) (w.heap.size) :=by
 have h:((((((w.alloc o0).alloc o1).alloc o2).alloc o3).alloc o4).alloc o5).heap[w.heap.size]?=(w.alloc o0).heap[w.heap.size]?:=by
  exact zz63
 unfold melts;rw [h]
@[go_sem high] theorem putAt_new_6_0 {o0 o1 o2 o3 o4 o5:Obj}:putAt ((((((w.alloc o0).alloc o1).alloc o2).alloc o3).alloc o4).alloc o5) (w.heap.size) off vs=((((((putAt (w.alloc o0) (w.heap.size) off vs).alloc o1).alloc o2).alloc o3).alloc o4).alloc o5):=by
 rw [putAt_alloc_past _ (by simp <;> omega)];rw [putAt_alloc_past _ (by simp <;> omega)];rw [putAt_alloc_past _ (by simp <;> omega)];rw [putAt_alloc_past _ (by simp <;> omega)];rw [putAt_alloc_past _ (by simp <;> omega)]
@[go_sem high] theorem has_new_6_1 {o0 o1 o2 o3 o4 o5:Obj}:has ((((((w.alloc o0).alloc o1).alloc o2).alloc o3).alloc o4).alloc o5) (w.heap.size+1) off n=has ((w.alloc o0).alloc o1) (w.heap.size+1) off n:=by
 have h:((((((w.alloc o0).alloc o1).alloc o2).alloc o3).alloc o4).alloc o5).heap[w.heap.size+1]?=((w.alloc o0).alloc o1).heap[w.heap.size+1]?:=by
  exact zz78
 unfold has;rw [h]
@[go_sem high] theorem gets_new_6_1 {o0 o1 o2 o3 o4 o5:Obj}:gets ((((((w.alloc o0).alloc o1).alloc o2).alloc o3).alloc o4).alloc o5) (w.heap.size+1) off n=gets ((w.alloc o0).alloc o1) (w.heap.size+1) off n:=by
 have h:((((((w.alloc o0).alloc o1).alloc o2).alloc o3).alloc o4).alloc o5).heap[w.heap.size+1]?=((w.alloc o0).alloc o1).heap[w.heap.size+1]?:=by
  exact zz78
 unfold gets;rw [h]
@[go_sem high] theorem melts_new_6_1 {o0 o1 o2 o3 o4 o5:Obj}:melts ((((((w.alloc o0).alloc o1).alloc o2).alloc o3).alloc o4).alloc o5) (w.heap.size+1) =melts ((w.alloc o0).alloc o1) (w.heap.size+1) :=by
 have h:((((((w.alloc o0).alloc o1).alloc o2).alloc o3).alloc o4).alloc o5).heap[w.heap.size+1]?=((w.alloc o0).alloc o1).heap[w.heap.size+1]?:=by
  exact zz78
 unfold melts;rw [h]
@[go_sem high] theorem putAt_new_6_1 {o0 o1 o2 o3 o4 o5:Obj}:putAt ((((((w.alloc o0).alloc o1).alloc o2).alloc o3).alloc o4).alloc o5) (w.heap.size+1) off vs=(((((putAt ((w.alloc o0).alloc o1) (w.heap.size+1) off vs).alloc o2).alloc o3).alloc o4).alloc o5):=by
 rw [putAt_alloc_past _ (by simp <;> omega)];rw [putAt_alloc_past _ (by simp <;> omega)];rw [putAt_alloc_past _ (by simp <;> omega)];rw [putAt_alloc_past _ (by simp <;> omega)]
@[go_sem high] theorem has_new_6_2 {o0 o1 o2 o3 o4 o5:Obj}:has ((((((w.alloc o0).alloc o1).alloc o2).alloc o3).alloc o4).alloc o5) (w.heap.size+1+1) off n=has (((w.alloc o0).alloc o1).alloc o2) (w.heap.size+1+1) off n:=by
 have h:((((((w.alloc o0).alloc o1).alloc o2).alloc o3).alloc o4).alloc o5).heap[w.heap.size+1+1]?=(((w.alloc o0).alloc o1).alloc o2).heap[w.heap.size+1+1]?:=by
  exact zz85
 unfold has;rw [h]
@[go_sem high] theorem gets_new_6_2 {o0 o1 o2 o3 o4 o5:Obj}:gets ((((((w.alloc o0).alloc o1).alloc o2).alloc o3).alloc o4).alloc o5) (w.heap.size+1+1) off n=gets (((w.alloc o0).alloc o1).alloc o2) (w.heap.size+1+1) off n:=by
 have h:((((((w.alloc o0).alloc o1).alloc o2).alloc o3).alloc o4).alloc o5).heap[w.heap.size+1+1]?=(((w.alloc o0).alloc o1).alloc o2).heap[w.heap.size+1+1]?:=by
  exact zz85
 unfold gets;rw [h]
@[go_sem high] theorem melts_new_6_2 {o0 o1 o2 o3 o4 o5:Obj}:melts ((((((w.alloc o0).alloc o1).alloc o2).alloc o3).alloc o4).alloc o5) (w.heap.size+1+1) =melts (((w.alloc o0).alloc o1).alloc o2) (w.heap.size+1+1) :=by
 have h:((((((w.alloc o0).alloc o1).alloc o2).alloc o3).alloc o4).alloc o5).heap[w.heap.size+1+1]?=(((w.alloc o0).alloc o1).alloc o2).heap[w.heap.size+1+1]?:=by
  exact zz85
 unfold melts;rw [h]
@[go_sem high] theorem putAt_new_6_2 {o0 o1 o2 o3 o4 o5:Obj}:putAt ((((((w.alloc o0).alloc o1).alloc o2).alloc o3).alloc o4).alloc o5) (w.heap.size+1+1) off vs=((((putAt (((w.alloc o0).alloc o1).alloc o2) (w.heap.size+1+1) off vs).alloc o3).alloc o4).alloc o5):=by
 exact zz88
@[go_sem high] theorem has_new_6_3 {o0 o1 o2 o3 o4 o5:Obj}:has ((((((w.alloc o0).alloc o1).alloc o2).alloc o3).alloc o4).alloc o5) (w.heap.size+1+1+1) off n=has ((((w.alloc o0).alloc o1).alloc o2).alloc o3) (w.heap.size+1+1+1) off n:=by
 have h:((((((w.alloc o0).alloc o1).alloc o2).alloc o3).alloc o4).alloc o5).heap[w.heap.size+1+1+1]?=((((w.alloc o0).alloc o1).alloc o2).alloc o3).heap[w.heap.size+1+1+1]?:=by
  exact zz92
 unfold has;rw [h]
@[go_sem high] theorem gets_new_6_3 {o0 o1 o2 o3 o4 o5:Obj}:gets ((((((w.alloc o0).alloc o1).alloc o2).alloc o3).alloc o4).alloc o5) (w.heap.size+1+1+1) off n=gets ((((w.alloc o0).alloc o1).alloc o2).alloc o3) (w.heap.size+1+1+1) off n:=by
 have h:((((((w.alloc o0).alloc o1).alloc o2).alloc o3).alloc o4).alloc o5).heap[w.heap.size+1+1+1]?=((((w.alloc o0).alloc o1).alloc o2).alloc o3).heap[w.heap.size+1+1+1]?:=by
  exact zz92
 unfold gets;rw [h]
@[go_sem high] theorem melts_new_6_3 {o0 o1 o2 o3 o4 o5:Obj}:melts ((((((w.alloc o0).alloc o1).alloc o2).alloc o3).alloc o4).alloc o5) (w.heap.size+1+1+1) =melts ((((w.alloc o0).alloc o1).alloc o2).alloc o3) (w.heap.size+1+1+1) :=by
 have h:((((((w.alloc o0).alloc o1).alloc o2).alloc o3).alloc o4).alloc o5).heap[w.heap.size+1+1+1]?=((((w.alloc o0).alloc o1).alloc o2).alloc o3).heap[w.heap.size+1+1+1]?:=by
  exact zz92
 unfold melts;rw [h]
@[go_sem high] theorem putAt_new_6_3 {o0 o1 o2 o3 o4 o5:Obj}:putAt ((((((w.alloc o0).alloc o1).alloc o2).alloc o3).alloc o4).alloc o5) (w.heap.size+1+1+1) off vs=(((putAt ((((w.alloc o0).alloc o1).alloc o2).alloc o3) (w.heap.size+1+1+1) off vs).alloc o4).alloc o5):=by
 exact zz96
@[go_sem high] theorem has_new_6_4 {o0 o1 o2 o3 o4 o5:Obj}:has ((((((w.alloc o0).alloc o1).alloc o2).alloc o3).alloc o4).alloc o5) (w.heap.size+1+1+1+1) off n=has (((((w.alloc o0).alloc o1).alloc o2).alloc o3).alloc o4) (w.heap.size+1+1+1+1) off n:=by
 have h:((((((w.alloc o0).alloc o1).alloc o2).alloc o3).alloc o4).alloc o5).heap[w.heap.size+1+1+1+1]?=(((((w.alloc o0).alloc o1).alloc o2).alloc o3).alloc o4).heap[w.heap.size+1+1+1+1]?:=by
  rw [Below.heap_alloc _ _ _ (by simp <;> omega)]
 unfold has;rw [h]
@[go_sem high] theorem gets_new_6_4 {o0 o1 o2 o3 o4 o5:Obj}:gets ((((((w.alloc o0).alloc o1).alloc o2).alloc o3).alloc o4).alloc o5) (w.heap.size+1+1+1+1) off n=gets (((((w.alloc o0).alloc o1).alloc o2).alloc o3).alloc o4) (w.heap.size+1+1+1+1) off n:=by
 have h:((((((w.alloc o0).alloc o1).alloc o2).alloc o3).alloc o4).alloc o5).heap[w.heap.size+1+1+1+1]?=(((((w.alloc o0).alloc o1).alloc o2).alloc o3).alloc o4).heap[w.heap.size+1+1+1+1]?:=by
  rw [Below.heap_alloc _ _ _ (by simp <;> omega)]
 unfold gets;rw [h]
@[go_sem high] theorem melts_new_6_4 {o0 o1 o2 o3 o4 o5:Obj}:melts ((((((w.alloc o0).alloc o1).alloc o2).alloc o3).alloc o4).alloc o5) (w.heap.size+1+1+1+1) =melts (((((w.alloc o0).alloc o1).alloc o2).alloc o3).alloc o4) (w.heap.size+1+1+1+1) :=by
 have h:((((((w.alloc o0).alloc o1).alloc o2).alloc o3).alloc o4).alloc o5).heap[w.heap.size+1+1+1+1]?=(((((w.alloc o0).alloc o1).alloc o2).alloc o3).alloc o4).heap[w.heap.size+1+1+1+1]?:=by
  rw [Below.heap_alloc _ _ _ (by simp <;> omega)]
 unfold melts;rw [h]
@[go_sem high] theorem putAt_new_6_4 {o0 o1 o2 o3 o4 o5:Obj}:putAt ((((((w.alloc o0).alloc o1).alloc o2).alloc o3).alloc o4).alloc o5) (w.heap.size+1+1+1+1) off vs=((putAt (((((w.alloc o0).alloc o1).alloc o2).alloc o3).alloc o4) (w.heap.size+1+1+1+1) off vs).alloc o5):=by
 rw [putAt_alloc_past _ (by simp <;> omega)]
@[go_sem high] theorem has_old_2 {o0 o1:Obj} (h:g < w.heap.size):has ((w.alloc o0).alloc o1) g off n=has w g off n:=by
 have e:((w.alloc o0).alloc o1).heap[g]?=w.heap[g]?:=by
  rw [Below.heap_alloc _ _ _ (by simp <;> omega)];rw [Below.heap_alloc _ _ _ h]
 unfold has;rw [e]
@[go_sem high] theorem gets_old_2 {o0 o1:Obj} (h:g < w.heap.size):gets ((w.alloc o0).alloc o1) g off n=gets w g off n:=by
 have e:((w.alloc o0).alloc o1).heap[g]?=w.heap[g]?:=by
  rw [Below.heap_alloc _ _ _ (by simp <;> omega)];rw [Below.heap_alloc _ _ _ h]
 unfold gets;rw [e]
@[go_sem high] theorem melts_old_2 {o0 o1:Obj} (h:g < w.heap.size):melts ((w.alloc o0).alloc o1) g =melts w g :=by
 have e:((w.alloc o0).alloc o1).heap[g]?=w.heap[g]?:=by
  rw [Below.heap_alloc _ _ _ (by simp <;> omega)];rw [Below.heap_alloc _ _ _ h]
 unfold melts;rw [e]
@[go_sem high] theorem putAt_old_2 {o0 o1:Obj} (h:g < w.heap.size):putAt ((w.alloc o0).alloc o1) g off vs=(((putAt w g off vs).alloc o0).alloc o1):=by
 rw [putAt_alloc_past _ (by simp <;> omega)];rw [putAt_alloc_past _ h]
@[go_sem high] theorem has_old_3 {o0 o1 o2:Obj} (h:g < w.heap.size):has (((w.alloc o0).alloc o1).alloc o2) g off n=has w g off n:=by
 have e:(((w.alloc o0).alloc o1).alloc o2).heap[g]?=w.heap[g]?:=by
  exact zz90
 unfold has;rw [e]
@[go_sem high] theorem gets_old_3 {o0 o1 o2:Obj} (h:g < w.heap.size):gets (((w.alloc o0).alloc o1).alloc o2) g off n=gets w g off n:=by
 have e:(((w.alloc o0).alloc o1).alloc o2).heap[g]?=w.heap[g]?:=by
  exact zz90
 unfold gets;rw [e]
@[go_sem high] theorem melts_old_3 {o0 o1 o2:Obj} (h:g < w.heap.size):melts (((w.alloc o0).alloc o1).alloc o2) g =melts w g :=by
 have e:(((w.alloc o0).alloc o1).alloc o2).heap[g]?=w.heap[g]?:=by
  exact zz90
 unfold melts;rw [e]
@[go_sem high] theorem putAt_old_3 {o0 o1 o2:Obj} (h:g < w.heap.size):putAt (((w.alloc o0).alloc o1).alloc o2) g off vs=((((putAt w g off vs).alloc o0).alloc o1).alloc o2):=by
 rw [putAt_alloc_past _ (by simp <;> omega)];rw [putAt_alloc_past _ (by simp <;> omega)];rw [putAt_alloc_past _ h]
@[go_sem high] theorem has_old_4 {o0 o1 o2 o3:Obj} (h:g < w.heap.size):has ((((w.alloc o0).alloc o1).alloc o2).alloc o3) g off n=has w g off n:=by
 have e:((((w.alloc o0).alloc o1).alloc o2).alloc o3).heap[g]?=w.heap[g]?:=by
  exact zz82
 unfold has;rw [e]
@[go_sem high] theorem gets_old_4 {o0 o1 o2 o3:Obj} (h:g < w.heap.size):gets ((((w.alloc o0).alloc o1).alloc o2).alloc o3) g off n=gets w g off n:=by
 have e:((((w.alloc o0).alloc o1).alloc o2).alloc o3).heap[g]?=w.heap[g]?:=by
  exact zz82
 unfold gets;rw [e]
@[go_sem high] theorem melts_old_4 {o0 o1 o2 o3:Obj} (h:g < w.heap.size):melts ((((w.alloc o0).alloc o1).alloc o2).alloc o3) g =melts w g :=by
 have e:((((w.alloc o0).alloc o1).alloc o2).alloc o3).heap[g]?=w.heap[g]?:=by
  exact zz82
 unfold melts;rw [e]
@[go_sem high] theorem putAt_old_4 {o0 o1 o2 o3:Obj} (h:g < w.heap.size):putAt ((((w.alloc o0).alloc o1).alloc o2).alloc o3) g off vs=(((((putAt w g off vs).alloc o0).alloc o1).alloc o2).alloc o3):=by
 rw [putAt_alloc_past _ (by simp <;> omega)];rw [putAt_alloc_past _ (by simp <;> omega)];rw [putAt_alloc_past _ (by simp <;> omega)];rw [putAt_alloc_past _ h]
@[go_sem high] theorem has_old_5 {o0 o1 o2 o3 o4:Obj} (h:g < w.heap.size):has (((((w.alloc o0).alloc o1).alloc o2).alloc o3).alloc o4) g off n=has w g off n:=by
 have e:(((((w.alloc o0).alloc o1).alloc o2).alloc o3).alloc o4).heap[g]?=w.heap[g]?:=by
  exact zz66
 unfold has;rw [e]
@[go_sem high] theorem gets_old_5 {o0 o1 o2 o3 o4:Obj} (h:g < w.heap.size):gets (((((w.alloc o0).alloc o1).alloc o2).alloc o3).alloc o4) g off n=gets w g off n:=by
 have e:(((((w.alloc o0).alloc o1).alloc o2).alloc o3).alloc o4).heap[g]?=w.heap[g]?:=by
  exact zz66
 unfold gets;rw [e]
@[go_sem high] theorem melts_old_5 {o0 o1 o2 o3 o4:Obj} (h:g < w.heap.size):melts (((((w.alloc o0).alloc o1).alloc o2).alloc o3).alloc o4) g =melts w g :=by
 have e:(((((w.alloc o0).alloc o1).alloc o2).alloc o3).alloc o4).heap[g]?=w.heap[g]?:=by
  exact zz66
 unfold melts;rw [e]
@[go_sem high] theorem putAt_old_5 {o0 o1 o2 o3 o4:Obj} (h:g < w.heap.size):putAt (((((w.alloc o0).alloc o1).alloc o2).alloc o3).alloc o4) g off vs=((((((putAt w g off vs).alloc o0).alloc o1).alloc o2).alloc o3).alloc o4):=by
 rw [putAt_alloc_past _ (by simp <;> omega)];rw [putAt_alloc_past _ (by simp <;> omega)];rw [putAt_alloc_past _ (by simp <;> omega)];rw [putAt_alloc_past _ (by simp <;> omega)];rw [putAt_alloc_past _ h]
@[go_sem] theorem gets_setCell_in {i:Nat} {v:Value} (h:off≤i):gets (w.setCell ⟨g,i,none⟩ v) g off n=(gets w g off n).setIfInBounds (i - off) v:=by
 simp only [gets,World.setCell,Array.getElem?_modify,if_true]
 cases hq:w.heap[g]? with
 | none=>simp
 | some ob =>
  cases ob <;> simp
  rw [List.drop_set,if_neg (by omega),List.take_set]
@[go_sem] theorem gets_setCell_out {i:Nat} {v:Value} (h:i < off ∨ off+n≤i):gets (w.setCell ⟨g,i,none⟩ v) g off n=gets w g off n:=by
 simp only [gets,World.setCell,Array.getElem?_modify,if_true]
 cases hq:w.heap[g]? with
 | none=>simp
 | some ob =>
  cases ob <;> simp
  rw [List.drop_set]
  split
  ·rfl
  ·rw [List.take_set,List.set_eq_of_length_le (by simp;omega)]
@[go_sem] theorem gets_setCell_far {p:Addr} {v:Value} (h:g ≠ p.block):gets (w.setCell p v) g off n=gets w g off n:=by
 simp only [gets,Below.heap_setCell w p v g h]
end
end Go.Proofs.YtbfbabbcdochjaaGreatDoor
