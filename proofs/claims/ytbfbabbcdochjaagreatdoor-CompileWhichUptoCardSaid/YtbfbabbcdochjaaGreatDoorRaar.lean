/- Several texts joined: Kb, Kc, Kd, Ke, Kf. -/
import Derived.Test.YtbfbabbcdochjaaGreatDoorRapk
import Derived.Test.YtbfbabbcdochjaaGreatDoorRaaq
set_option maxHeartbeats 4000000
namespace Go.Proofs.YtbfbabbcdochjaaGreatDoor.Mc
open Go.RowKit
def okN (c:UInt8) (n size words:Int):Bool:=if c=119 then decide (0≤n) && decide (n < words) else if c=112 then decide (0≤n) && decide (n < size) else i32B n
def okP (h:List UInt8) (k:Nat) (n size words:Int):Bool:=match h[k]? with | some c=>okN c n size words | none=>n == 0
def nth3 (i:Ins):Nat→Int | 0=>i.a | 1=>i.b | _=>i.c
def rightE (i:Ins):Bool:=if i.op=0 then (i.a == 0 || i.a == 1) else if i.op=17 then decide (i.b≤i.c) else if i.op=18 then decide (0≤i.c) else true
def rightI (i:Ins) (size words:Int):Bool:=isOp i.op && (okP (hasN i.op.toNat) 0 (nth3 i 0) size words && okP (hasN i.op.toNat) 1 (nth3 i 1) size words && okP (hasN i.op.toNat) 2 (nth3 i 2) size words) && rightE i
theorem rightI_false {i:Ins} {size words:Int} {j:Nat} (hj:j < 3) (h:okP (hasN i.op.toNat) j (nth3 i j) size words=false):rightI i size words=false:=by
 unfold rightI
 rcases (by omega:j=0 ∨ j=1 ∨ j=2) with rfl | rfl | rfl <;> simp [h]
theorem rightI_true {i:Ins} {size words:Int} (ho:isOp i.op=true) (h:∀ j,j < 3→okP (hasN i.op.toNat) j (nth3 i j) size words=true):rightI i size words=rightE i:=by
 unfold rightI
 rw [ho,h 0 (by omega),h 1 (by omega),h 2 (by omega)]
 simp
theorem idx3 (i:Ins) (k:Nat) (hk:k < 3) (w:World):(Instr.index 180 (.agg #[.int .i64 i.a,.int .i64 i.b,.int .i64 i.c]) (.int .i64 k)).run Tryz.prog w=.ok (.int .i64 (nth3 i k)) w:=by
 rcases (by omega:k=0 ∨ k=1 ∨ k=2) with rfl | rfl | rfl <;> kernel_rfl
theorem hasN_len (k:Nat):(hasN k).length≤3:=by
 unfold hasN
 split <;> simp
set_option maxRecDepth 100000 in
theorem iright_any (i:Ins) (size words:Int) (w:World) (hops:OpsAt w):Calls Tryz.prog 67 #[.agg i.cells,.int .i64 size,.int .i64 words] w fun e w'=>e=.returned (.bool (rightI i size words))∧Ext w w':=by
 have hx0:Ext w _:=(Kept.refl _ w).alloc (.cells i.cells 77)
 have hI0:=Blk.new w 77 i.cells
 have HOP:=zhd (hops.ext hx0)
 clear hops
 by_cases h:isOp i.op=true
 ·have HH:=zhd h
  clear h
  obtain ⟨R,hR⟩:∃ R,R=rightI i size words:=⟨_,rfl⟩
  rw [← hR]
  have HR:=zhd hR
  clear hR
  go_enter Tryz.func67,Tryz.ntmps67
  go_wp2_with fail
  refine (is_any _ _).mono ?_
  rintro e w1 ⟨rfl,rfl⟩
  rw [HH.out]
  go_wp2_with fail
  refine (has_any i _ HOP.out).mono ?_
  rintro e w2 ⟨e2,hx2⟩
  obtain ⟨h,hh⟩:∃ h,h=hasN i.op.toNat:=⟨_,rfl⟩
  replace e2:e=.returned (.string ⟨h.toArray⟩):=by rw [e2,hasI,if_pos HH.out,hh];rfl
  subst e2
  have hlen:h.length≤3:=by rw [hh];exact hasN_len _
  have HHN:=zhd hh
  clear hh
  have hI2:=Blk.ext hI0 hx2
  have hh2:=Blk.has hI2
  have hg2:=Blk.gets hI2
  go_wp2_with fail
  refine (three_any i _).mono ?_
  rintro e w3 ⟨rfl,hx3⟩
  have y3:=(hx0.trans hx2).trans hx3
  have hI3:=Blk.ext hI2 hx3
  clear hI0 hI2 hh2 hg2 hx0 hx2 hx3
  go_wp2_with fail
  go_loop [19] (fun t19=>∃ (k:Nat),k≤3∧t19=.int .i64 k∧(∀ j,j < k→okP h j (nth3 i j) size words=true)) (fun t19=>3 - (intOf t19).toNat)
  case atStart=>exact ⟨0,by omega,rfl,fun j hj=>by omega⟩
  case round =>
   obtain ⟨k,hk,rfl,hprev⟩:=hrel
   have HP:=zhd hprev
   clear hprev
   by_cases hlt:k < 3
   ·have hix:=idx3 i k hlt
    obtain ⟨n,hn⟩:∃ n,n=nth3 i k:=⟨_,rfl⟩
    rw [← hn] at hix
    have HNn:=zhd hn
    clear hn
    have next:okP h k n size words=true→∀ j,j < k+1→okP h j (nth3 i j) size words=true:=fun hq j hj=>by
     by_cases e:j=k
     ·subst e;rw [← HNn.out];exact hq
     ·exact HP.out j (by omega)
    have stop:okP h k n size words=false→R=false:=fun hq=>by
     rw [HR.out];exact rightI_false hlt (by rw [← HHN.out,← HNn.out];exact hq)
    have NX:=zhd next
    have SP:=zhd stop
    clear next stop
    by_cases hkl:k < h.length
    ·have hklI:(k:Int) < h.length:=by omega
     obtain ⟨c,hc⟩:∃ c,c=h[k]:=⟨_,rfl⟩
     have hget:h[k]?=some c:=by rw [List.getElem?_eq_getElem hkl,hc]
     have hcN:((⟨h.toArray⟩:ByteArray)[k]'(show k < h.toArray.size by simpa using hkl)).toNat=c.toNat:=by rw [hc];rfl
     have HG:=zhd hget
     clear hget hc
     by_cases h1:c=119
     ·subst h1
      replace hcN:((⟨h.toArray⟩:ByteArray)[k]'(show k < h.toArray.size by simpa using hkl)).toNat=119:=hcN
      by_cases hn0:0≤n
      ·by_cases hn1:n < words
       ·have ok:okP h k n size words=true:=by simp [okP,okN,HG.out,hn0,hn1]
        have OK:=zhd ok
        clear ok
        go_wp2_with fail
        go_round
        case rel=>exact ⟨k+1,hlt,by go_num,NX.out OK.out⟩
        case measure=>simp only [intOf];omega
       ·have ok:okP h k n size words=false:=by simp [okP,okN,HG.out,hn1]
        exact zz95
      ·have ok:okP h k n size words=false:=by simp [okP,okN,HG.out,hn0]
       exact zz95
     ·by_cases h2:c=112
      ·subst h2
       replace hcN:((⟨h.toArray⟩:ByteArray)[k]'(show k < h.toArray.size by simpa using hkl)).toNat=112:=hcN
       by_cases hn0:0≤n
       ·by_cases hn1:n < size
        ·have ok:okP h k n size words=true:=by simp [okP,okN,HG.out,hn0,hn1]
         have OK:=zhd ok
         clear ok
         go_wp2_with fail
         go_round
         case rel=>exact ⟨k+1,hlt,by go_num,NX.out OK.out⟩
         case measure=>simp only [intOf];omega
        ·have ok:okP h k n size words=false:=by simp [okP,okN,HG.out,hn1]
         exact zz95
       ·have ok:okP h k n size words=false:=by simp [okP,okN,HG.out,hn0]
        exact zz95
      ·have ok:okP h k n size words=i32B n:=by simp [okP,okN,HG.out,h1,h2]
       have hc1:¬ c.toNat=119:=fun e=>h1 (UInt8.toNat_inj.1 e)
       have hc2:¬ c.toNat=112:=fun e=>h2 (UInt8.toNat_inj.1 e)
       generalize c.toNat=cn at hcN hc1 hc2
       have b1:(cn == 119)=false:=by simpa using hc1
       have b2:(cn == 112)=false:=by simpa using hc2
       have b1':((cn:Int) == 119)=false:=by simp;omega
       have b2':((cn:Int) == 112)=false:=by simp;omega
       have OK:=zhd ok
       clear ok hc1 hc2 h1 h2
       go_wp2_with fail
       refine (cright_any n _).mono ?_
       rintro e w4 ⟨rfl,rfl⟩
       cases hi:i32B n
       ·have HI:=zhd hi
        clear hi
        go_wp2_with fail
        go_ret
        exact ⟨ret_bool (SP.out (OK.out.trans HI.out)).symm,y3⟩
       ·have HI:=zhd hi
        clear hi
        go_wp2_with fail
        go_round
        case rel=>exact ⟨k+1,hlt,by go_num,NX.out (OK.out.trans HI.out)⟩
        case measure=>simp only [intOf];omega
    ·have hklI:¬ (k:Int) < h.length:=by omega
     have ok:okP h k n size words=(n == 0):=by simp [okP,List.getElem?_eq_none (show h.length≤k by omega)]
     have OK:=zhd ok
     clear ok
     cases hi:(n == 0)
     ·have HI:=zhd hi
      go_wp2_with fail
      go_ret
      exact ⟨ret_bool (SP.out (OK.out.trans HI.out)).symm,y3⟩
     ·have HI:=zhd hi
      go_wp2_with fail
      go_round
      case rel=>exact ⟨k+1,hlt,by go_num,NX.out (OK.out.trans HI.out)⟩
      case measure=>simp only [intOf];omega
   ·obtain rfl:k=3:=by omega
    have hR3:=rightI_true HH.out (by rw [← HHN.out];exact HP.out)
    rw [← HR.out] at hR3
    have HR3:=zhd hR3
    clear hR3
    have hc3:=Blk.cell hI3
    have e0:(i.op == 0)=true ∨ (i.op == 0)=false:=by cases (i.op == 0) <;> simp
    have e17:(i.op == 17)=true ∨ (i.op == 17)=false:=by cases (i.op == 17) <;> simp
    have e18:(i.op == 18)=true ∨ (i.op == 18)=false:=by cases (i.op == 18) <;> simp
    have E17:=zhd e17
    have E18:=zhd e18
    clear e17 e18
    rcases e0 with e0 | e0
    ·go_wp2_with fail
     all_goals go_ret
     all_goals refine ⟨ret_bool ?_,y3⟩
     all_goals (rw [HR3.out,rightE,if_pos (by simpa using e0)] <;> simp [*])
    ·rcases E17.out with e17 | e17
     ·go_wp2_with fail
      go_ret
      refine ⟨ret_bool ?_,y3⟩
      rw [HR3.out,rightE,if_neg (by simpa using e0),if_pos (by simpa using e17)]
     ·rcases E18.out with e18 | e18
      ·go_wp2_with fail
       go_ret
       refine ⟨ret_bool ?_,y3⟩
       rw [HR3.out,rightE,if_neg (by simpa using e0),if_neg (by simpa using e17),if_pos (by simpa using e18)]
      ·go_wp2_with fail
       go_ret
       refine ⟨ret_bool ?_,y3⟩
       rw [HR3.out,rightE,if_neg (by simpa using e0),if_neg (by simpa using e17),if_neg (by simpa using e18)]
 ·have hf:isOp i.op=false:=by simpa using h
  have hq:rightI i size words=false:=by simp [rightI,hf]
  rw [hq]
  have HH:=zhd hf
  clear h hf hq
  go_enter Tryz.func67,Tryz.ntmps67
  exact zz89
open Go.RowKit
abbrev StAt (w:World) (s:Nat) (t:TypeId) (pc:Int) (A:Option Addr) (n cap:Nat) (halt:Int):Prop:=Blk w s t (stCells pc A n cap halt)
def nextI (c:List Ins) (pc:Int) (k:Nat):Option Ins:=match c[pc.toNat]? with | some i=>if rightI i c.length k=true then some i else none | none=>none
abbrev insO (o:Option Ins):Ins:=o.getD ⟨0,0,0,0⟩
set_option maxRecDepth 100000 in
theorem next_past (s:Nat) (pc halt:Int) (M:Option Addr) (k kc:Nat) (A:Option Addr) (n cap:Nat) (w:World) (h2:n≤2048) (hp:(n:Int)≤pc) (hs:StAt w s 49 pc M k kc halt) :
 Calls Tryz.prog 112 #[.pointer (some ⟨s,0,none⟩),.slice A n cap] w fun e w'=>e=.returned (.tuple #[.agg (Ins.cells ⟨0,0,0,0⟩),.bool false])∧Ext w w':=by
 have hx0:Ext w _:=(Kept.refl _ w).alloc (.cells (Ins.cells ⟨0,0,0,0⟩) 77)
 have hR0:=Blk.new w 77 (Ins.cells ⟨0,0,0,0⟩)
 have hS0:=Blk.alloc hs (.cells (Ins.cells ⟨0,0,0,0⟩) 77)
 have hls:=hs.lt
 have b1:decide ((2048:Int) < n)=false:=by simp;omega
 have b1':decide (2048 < n)=false:=by simp;omega
 have b2:decide ((n:Int)≤pc)=true:=by simpa using hp
 clear hs
 go_enter Tryz.func112,Tryz.ntmps112
 go_wp2_with fail
 generalize (w.alloc (.cells (Ins.cells ⟨0,0,0,0⟩) 77))=W at hx0 hR0 hS0 ⊢
 have hlS:=hS0.lt
 refine qr3 (fun w1=>Ext W w1) [(0,2),(1,2),(2,2),(3,2),(4,2),(5,2),(6,2),(7,1),(8,2),(9,2),(10,2),(11,2),(12,2),(13,2),(14,2),(15,2),(16,2),(17,1),(18,2),(19,1),(20,2),(21,2),(22,2),(23,2),(24,2),(25,1),(26,2),(27,0),(28,2),(29,2)] ?_;refine qrl ?_
 (repeat (first | refine qs3 ?_ | ((apply w3_take);(· exact (Kept.drew (Kept.refl _ _)));(· go_simp);(· (intro w1 hS;have d1:=Blk.cell (Blk.ext hS0 hS); go_simp;try with_reducible rfl));refine qnx ?_) | ((apply w3_pass);(· exact (Kept.drew (Kept.refl _ _)));(· go_simp);refine qnx ?_)))
 (refine w3_act (fun K hK=>?_);go_simp)
 refine hK.out _ _ (fun h=>h) ?_
 clear hK K
 refine qf3 ?_
 have hR1:Blk W.drew w.heap.size 77 (Ins.cells ⟨0,0,0,0⟩):=hR0
 have hh1:=Blk.has hR1
 have hm1:=Blk.melts hR1
 go_wp2_with fail
 refine ret_ci Tryz.results112 rfl rfl aggWins (by exact sizeWins) (Blk.put_ hR1 _ _) ⟨rfl,?_⟩
 exact Kept.putAt (hx0.drew) _ _ _ (fun h=>by omega)
set_option maxRecDepth 100000 in
theorem next_in (s:Nat) (halt:Int) (M:Option Addr) (k kc:Nat) (b off:Nat) (c:List Ins) (n cap p:Nat) (w:World) (hn:n=c.length) (h2:n≤2048) (hp:p < n) (hops:OpsAt w) (hs:StAt w s 49 p M k kc halt) (hr:Row w b off (inss c)) :
 Calls Tryz.prog 112 #[.pointer (some ⟨s,0,none⟩),.slice (some ⟨b,off,none⟩) n cap] w fun e w'=>e=.returned (.tuple #[.agg (insO (nextI c p k)).cells,.bool (nextI c p k).isSome])∧Ext w w':=by
 have hpl:p < c.length:=by omega
 obtain ⟨i,hi⟩:∃ i,i=c[p]:=⟨_,rfl⟩
 have hnx:nextI c p k=if rightI i n k=true then some i else none:=by
  simp only [nextI,Int.toNat_natCast,List.getElem?_eq_getElem hpl,← hi,← hn]
 have hx0:Ext w _:=(Kept.refl _ w).alloc (.cells (Ins.cells ⟨0,0,0,0⟩) 77)
 have hR0:=Blk.new w 77 (Ins.cells ⟨0,0,0,0⟩)
 have hS0:=Blk.alloc hs (.cells (Ins.cells ⟨0,0,0,0⟩) 77)
 have hC0:=hr.ext hx0
 have HOP:=zhd (hops.ext hx0)
 have hls:=hs.lt
 have b1:decide ((2048:Int) < n)=false:=by simp;omega
 have b1':decide (2048 < n)=false:=by simp;omega
 have b2:decide ((n:Int)≤p)=false:=by simp;omega
 have b2':decide (n≤p)=false:=by simp;omega
 have hpI:(p:Int) < n:=by omega
 have HX:=zhd hnx
 have HI:=zhd hi
 clear hs hr hops hnx
 obtain ⟨a1,a2⟩:=hC0.ins p hpl
 rw [← HI.out] at a2
 clear hi
 have HN:=zhd hn
 clear hn
 obtain ⟨R,hR⟩:∃ R,R=rightI i n k:=⟨_,rfl⟩
 have HR:=zhd hR
 clear hR
 go_enter Tryz.func112,Tryz.ntmps112
 go_wp2_with fail
 generalize (w.alloc (.cells (Ins.cells ⟨0,0,0,0⟩) 77))=W at hx0 hR0 hS0 hC0 HOP a1 a2 ⊢
 have hlS:=hS0.lt
 have hlC:=hC0.lt
 refine qr3 (fun w1=>Ext W w1) [(0,2),(1,2),(2,2),(3,2),(4,2),(5,2),(6,2),(7,1),(8,2),(9,2),(10,2),(11,2),(12,2),(13,2),(14,2),(15,2),(16,2),(17,1),(18,2),(19,1),(20,2),(21,2),(22,2),(23,2),(24,2),(25,1),(26,2),(27,0),(28,2),(29,2)] ?_;refine qrl ?_
 (repeat (first | refine qs3 ?_ | ((apply w3_take);(· exact (Kept.drew (Kept.refl _ _)));(· go_simp);(· (intro w1 hS;have d1:=Blk.cell (Blk.ext hS0 hS);have d2:=(hC0.ext hS).ins p hpl;rw [← HI.out] at d2;have d3:=d2.1;have d4:=d2.2; go_simp;try with_reducible rfl));refine qnx ?_) | ((apply w3_pass);(· exact (Kept.drew (Kept.refl _ _)));(· go_simp);refine qnx ?_)))
 (refine w3_act (fun K hK=>?_);go_simp)
 go_wp2_with fail
 refine (iright_any i n k _ (HOP.out.ext ((Kept.refl _ W).drew))).mono ?_
 rintro e w1 ⟨e1,hx1⟩
 replace e1:e=.returned (.bool R):=by rw [e1,HR.out]
 subst e1
 have y1:Ext W w1:=((Kept.refl _ W).drew).trans hx1
 refine hK.out _ _ (fun _=>y1) ?_
 clear hK K
 refine qf3 ?_
 have hR1:=Blk.ext hR0 y1
 have hh1:=Blk.has hR1
 have hm1:=Blk.melts hR1
 have hS1:=Blk.ext hS0 y1
 have hc1:=Blk.cell hS1
 obtain ⟨q1,q2⟩:=(hC0.ext y1).ins p hpl
 rw [← HI.out] at q2
 cases hq:R
 ·have e:nextI c p k=none:=by rw [HX.out,← HR.out,hq];rfl
  exact zz70
 ·have e:nextI c p k=some i:=by rw [HX.out,← HR.out,hq];rfl
  exact zz70
theorem nextI_past (c:List Ins) (pc:Int) (k:Nat) (h:(c.length:Int)≤pc):nextI c pc k=none:=by
 unfold nextI
 rw [List.getElem?_eq_none (by omega)]
theorem next_any (s:Nat) (pc halt:Int) (M:Option Addr) (k kc:Nat) (A:Option Addr) (b off:Nat) (c:List Ins) (n cap:Nat) (w:World) (hn:n=c.length) (h2:n≤2048) (hp:0≤pc) (hA:0 < n→A=some ⟨b,off,none⟩) (hops:OpsAt w) (hs:StAt w s 49 pc M k kc halt) (hr:0 < n→Row w b off (inss c)) :
 Calls Tryz.prog 112 #[.pointer (some ⟨s,0,none⟩),.slice A n cap] w fun e w'=>e=.returned (.tuple #[.agg (insO (nextI c pc k)).cells,.bool (nextI c pc k).isSome])∧Ext w w':=by
 by_cases h:(n:Int)≤pc
 ·rw [nextI_past c pc k (by omega)]
  exact next_past s pc halt M k kc A n cap w h2 h hs
 ·obtain ⟨p,rfl⟩:∃ p:Nat,pc=p:=⟨pc.toNat,by omega⟩
  obtain rfl:=hA (by omega)
  exact next_in s halt M k kc b off c n cap p w hn h2 (by omega) hops hs (hr (by omega))
open Go.RowKit
def placeI (p:Int) (k:Nat):Int:=if 0≤p∧p < k then p else -1
def farI (i:Ins) (m:List Int):Int:=if i.op=15 then placeI (i.b+m.getD i.c.toNat 0) m.length else if i.op=16 then placeI (i.a+m.getD i.b.toNat 0) m.length else -1
theorem okP_w {h:List UInt8} {k:Nat} {n size words:Int} (hk:h[k]?=some 119) (h1:okP h k n size words=true):0≤n∧n < words:=by
 simpa [okP,hk,okN] using h1
theorem okP_p {h:List UInt8} {k:Nat} {n size words:Int} (hk:h[k]?=some 112) (h1:okP h k n size words=true):0≤n∧n < size:=by
 simpa [okP,hk,okN] using h1
theorem okP_n {h:List UInt8} {k:Nat} {n size words:Int} (hk:h[k]?=some 110) (h1:okP h k n size words=true):-2147483648≤n∧n≤2147483647:=by
 simpa [okP,hk,okN,i32B] using h1
theorem rightI_parts {i:Ins} {size words:Int} (h:rightI i size words=true):0≤i.op∧i.op < 22∧okP (hasN i.op.toNat) 0 i.a size words=true∧okP (hasN i.op.toNat) 1 i.b size words=true∧okP (hasN i.op.toNat) 2 i.c size words=true∧rightE i=true:=by
 simp only [rightI,Bool.and_eq_true] at h
 obtain ⟨⟨h1,⟨h2,h3⟩,h4⟩,h5⟩:=h
 simp [isOp] at h1
 exact ⟨h1.1,h1.2,h2,h3,h4,h5⟩
theorem far_no (i:Ins) (s:Nat) (pc halt:Int) (M:Option Addr) (k kc:Nat) (w:World) (hk:k≤256) (h15:(i.op == 15)=false) (h16:(i.op == 16)=false) (hs:StAt w s 49 pc M k kc halt) :
 Calls Tryz.prog 113 #[.pointer (some ⟨s,0,none⟩),.agg i.cells] w fun e w'=>e=.returned (.int .i64 (-1))∧Ext w w':=by
 have hx0:Ext w _:=(Kept.refl _ w).alloc (.cells i.cells 77)
 have hS0:=Blk.alloc hs (.cells i.cells 77)
 have hls:=hs.lt
 have hc:=Blk.cell hs
 have b1:decide ((k:Int)≤-1)=false:=by simp;omega
 go_enter Tryz.func113,Tryz.ntmps113
 go_wp2_with fail
 go_ret
 exact ⟨rfl,hx0⟩
theorem far_load (a b c:Nat) (s:Nat) (pc halt:Int) (g off k kc:Nat) (m:List Int) (w:World) (hkm:k=m.length) (hk:k≤256) (hb:b < k) (hc:c < k) (hm:∀ x ∈ m,i32ok x) (hs:StAt w s 49 pc (some ⟨g,off,none⟩) k kc halt) (hr:Row w g off (mems m)) :
 Calls Tryz.prog 113 #[.pointer (some ⟨s,0,none⟩),.agg (Ins.cells ⟨15,a,b,c⟩)] w fun e w'=>e=.returned (.int .i64 (placeI (b+m.getD c 0) k))∧Ext w w':=by
 have hcl:c < m.length:=by omega
 have hx0:Ext w _:=(Kept.refl _ w).alloc (.cells (Ins.cells ⟨15,a,b,c⟩) 77)
 have hS0:=Blk.alloc hs (.cells (Ins.cells ⟨15,a,b,c⟩) 77)
 have hI0:=Blk.new w 77 (Ins.cells ⟨15,a,b,c⟩)
 have hM0:=hr.ext hx0
 have hls:=hs.lt
 obtain ⟨x,hx⟩:∃ x,x=m[c]:=⟨_,rfl⟩
 have hxr:i32ok x:=by rw [hx];exact hm _ (List.getElem_mem hcl)
 have hgd:m.getD c 0=x:=by simp [hcl,hx]
 rw [hgd]
 unfold i32ok at hxr
 obtain ⟨hx1,hx2⟩:=hxr
 obtain ⟨q,hq⟩:∃ q,q=(b:Int)+x:=⟨_,rfl⟩
 rw [← hq]
 have hw1:IntKind.i64.wrap ((b:Int)+x)=q:=by rw [IntKind.wrap_i64];omega
 have hw0:IntKind.i64.wrap x=x:=by rw [IntKind.wrap_i64];omega
 have hcI:(c:Int) < k:=by omega
 have HXX:=zhd hx
 have HQ:=zhd hq
 have HKM:=zhd hkm
 clear hs hr hx hgd hq hkm hm
 go_enter Tryz.func113,Tryz.ntmps113
 go_wp2_with fail
 generalize (w.alloc (.cells (Ins.cells ⟨15,a,b,c⟩) 77))=W at hx0 hS0 hI0 hM0 ⊢
 have l1:=hS0.lt
 have l2:=hI0.lt
 have l3:=hM0.lt
 refine qr3 (fun w1=>Ext W w1) [(0,2),(1,1),(2,2),(3,2),(4,2),(5,1),(6,2),(7,1),(8,2),(9,1),(10,1),(11,2),(12,2)] ?_;refine qrl ?_
 (repeat (first | refine qs3 ?_ | ((apply w3_take);(· exact (Kept.drew (Kept.refl _ _)));(· go_simp);(· (intro w1 hS;have d1:=Blk.cell (Blk.ext hS0 hS);have d2:=Blk.cell (Blk.ext hI0 hS);have d3:=(hM0.ext hS).mem c hcl;rw [← HXX.out] at d3; go_simp;try with_reducible rfl));refine qnx ?_) | ((apply w3_pass);(· exact (Kept.drew (Kept.refl _ _)));(· go_simp);refine qnx ?_)))
 exact zz26
theorem far_store (a b c:Nat) (s:Nat) (pc halt:Int) (g off k kc:Nat) (m:List Int) (w:World) (hkm:k=m.length) (hk:k≤256) (ha:a < k) (hc:b < k) (hm:∀ x ∈ m,i32ok x) (hs:StAt w s 49 pc (some ⟨g,off,none⟩) k kc halt) (hr:Row w g off (mems m)) :
 Calls Tryz.prog 113 #[.pointer (some ⟨s,0,none⟩),.agg (Ins.cells ⟨16,a,b,c⟩)] w fun e w'=>e=.returned (.int .i64 (placeI (a+m.getD b 0) k))∧Ext w w':=by
 have hcl:b < m.length:=by omega
 have hx0:Ext w _:=(Kept.refl _ w).alloc (.cells (Ins.cells ⟨16,a,b,c⟩) 77)
 have hS0:=Blk.alloc hs (.cells (Ins.cells ⟨16,a,b,c⟩) 77)
 have hI0:=Blk.new w 77 (Ins.cells ⟨16,a,b,c⟩)
 have hM0:=hr.ext hx0
 have hls:=hs.lt
 obtain ⟨x,hx⟩:∃ x,x=m[b]:=⟨_,rfl⟩
 have hxr:i32ok x:=by rw [hx];exact hm _ (List.getElem_mem hcl)
 have hgd:m.getD b 0=x:=by simp [hcl,hx]
 rw [hgd]
 unfold i32ok at hxr
 obtain ⟨hx1,hx2⟩:=hxr
 obtain ⟨q,hq⟩:∃ q,q=(a:Int)+x:=⟨_,rfl⟩
 rw [← hq]
 have hw1:IntKind.i64.wrap ((a:Int)+x)=q:=by rw [IntKind.wrap_i64];omega
 have hw0:IntKind.i64.wrap x=x:=by rw [IntKind.wrap_i64];omega
 have hcI:(b:Int) < k:=by omega
 have HXX:=zhd hx
 have HQ:=zhd hq
 have HKM:=zhd hkm
 clear hs hr hx hgd hq hkm hm
 go_enter Tryz.func113,Tryz.ntmps113
 go_wp2_with fail
 generalize (w.alloc (.cells (Ins.cells ⟨16,a,b,c⟩) 77))=W at hx0 hS0 hI0 hM0 ⊢
 have l1:=hS0.lt
 have l2:=hI0.lt
 have l3:=hM0.lt
 refine qr3 (fun w1=>Ext W w1) [(0,2),(1,1),(2,2),(3,2),(4,2),(5,1),(6,2),(7,1),(8,2),(9,1),(10,1),(11,2),(12,2)] ?_;refine qrl ?_
 (repeat (first | refine qs3 ?_ | ((apply w3_take);(· exact (Kept.drew (Kept.refl _ _)));(· go_simp);(· (intro w1 hS;have d1:=Blk.cell (Blk.ext hS0 hS);have d2:=Blk.cell (Blk.ext hI0 hS);have d3:=(hM0.ext hS).mem b hcl;rw [← HXX.out] at d3; go_simp;try with_reducible rfl));refine qnx ?_) | ((apply w3_pass);(· exact (Kept.drew (Kept.refl _ _)));(· go_simp);refine qnx ?_)))
 exact zz26
theorem far_any (i:Ins) (size:Int) (s:Nat) (pc halt:Int) (g off k kc:Nat) (m:List Int) (w:World) (hkm:k=m.length) (hk:k≤256) (hi:rightI i size k=true) (hm:∀ x ∈ m,i32ok x) (hs:StAt w s 49 pc (some ⟨g,off,none⟩) k kc halt) (hr:Row w g off (mems m)) :
 Calls Tryz.prog 113 #[.pointer (some ⟨s,0,none⟩),.agg i.cells] w fun e w'=>e=.returned (.int .i64 (farI i m))∧Ext w w':=by
 obtain ⟨h0,h22,ha,hb,hc,he⟩:=rightI_parts hi
 by_cases h15:i.op=15
 ·rw [h15] at ha hb hc
  have ha:=okP_w rfl ha
  have hb:=okP_w rfl hb
  have hc:=okP_w rfl hc
  obtain ⟨op,a,b,c⟩:=i
  simp at h15 ha hb hc
  subst h15
  obtain ⟨a,rfl⟩:∃ n:Nat,a=n:=⟨a.toNat,by omega⟩
  obtain ⟨b,rfl⟩:∃ n:Nat,b=n:=⟨b.toNat,by omega⟩
  obtain ⟨c,rfl⟩:∃ n:Nat,c=n:=⟨c.toNat,by omega⟩
  have:=far_load a b c s pc halt g off k kc m w hkm hk (by omega) (by omega) hm hs hr
  simpa [farI,← hkm] using this
 ·by_cases h16:i.op=16
  ·rw [h16] at ha hb hc
   have ha:=okP_w rfl ha
   have hb:=okP_w rfl hb
   have hc:=okP_w rfl hc
   obtain ⟨op,a,b,c⟩:=i
   simp at h16 ha hb hc
   subst h16
   obtain ⟨a,rfl⟩:∃ n:Nat,a=n:=⟨a.toNat,by omega⟩
   obtain ⟨b,rfl⟩:∃ n:Nat,b=n:=⟨b.toNat,by omega⟩
   obtain ⟨c,rfl⟩:∃ n:Nat,c=n:=⟨c.toNat,by omega⟩
   have:=far_store a b c s pc halt g off k kc m w hkm hk (by omega) (by omega) hm hs hr
   simpa [farI,← hkm] using this
  ·rw [show farI i m=-1 by simp only [farI,if_neg h15,if_neg h16]]
   exact far_no i s pc halt _ k kc w hk (by simpa using h15) (by simpa using h16) hs
open Go.RowKit
def MapB (w:World) (g:Nat) (es:Array MapEntry) (clock:Nat):Prop:=w.heap[g]?=some (.map es clock)
theorem MapB.lt {w:World} {g:Nat} {es:Array MapEntry} {clock:Nat} (h:MapB w g es clock):g < w.heap.size:=(Array.getElem?_eq_some_iff.1 h).1
theorem MapB.kept {S:Nat→Prop} {w w':World} {g:Nat} {es:Array MapEntry} {clock:Nat} (h:MapB w g es clock) (hk:Kept S w w') (hs:¬ S g):MapB w' g es clock:=(hk.block g h.lt hs).trans h
theorem MapB.ext {w w':World} {g:Nat} {es:Array MapEntry} {clock:Nat} (h:MapB w g es clock) (hk:Ext w w'):MapB w' g es clock:=h.kept hk (fun f=>f)
theorem insStep (w:World) (g:Nat) (es:Array MapEntry) (clock:Nat) (k:Int) (f:Value) (hb:MapB w g es clock) (hf:Instr.findNow (.int .i64) (.int .i64 k) es.toList 0=some none) :
 ∃ w',(Instr.mapUpdate 131 (.map (some g)) (.int .i64 k) f).run Tryz.prog w=.ok () w'∧MapB w' g (es.push ⟨.int .i64 k,f,clock⟩) (clock+1)∧Kept (·=g) w w':=by
 have hc:(Instr.checkKey false 10000 3 (.int .i64 k)).run Tryz.prog w=.ok () w:=MapKept.run_checkKey (k:=.int .i64 k) Tryz.underlying3 (by simp [MapKept.IsKey]) false 9999
 refine ⟨{ w with heap:=w.heap.setIfInBounds g (.map (es.push ⟨.int .i64 k,f,clock⟩) (clock+1)) },?_,?_,⟨rfl,rfl,rfl,by simp,fun j hj hn=>?_⟩⟩
 ·simp [Instr.mapUpdate,run_underlying Tryz.underlying131,MapKept.run_getObj_map hb,hc,MapKept.run_findKey Tryz.underlying3 hf,MapKept.run_setObj_map _ hb,Result.andThen]
 ·exact (MapKept.heap_set hb).1
 ·exact (MapKept.heap_set hb).2 j hn
theorem wpList_ins {P:Program} {w:World} {ops:Array Oper} {rest:List Oper} {o:Oper} {a:Act} {Q:Exit→Act→World→Prop} (hgd:o.guard=none) (T:TypeId) (m k x:Operand)
 (ho:o.op=.insert T m k x) (hd:o.dst=none) {vm vk vx:Value} {w':World} (hm:a.eval m=vm) (hk:a.eval k=vk) (hx:a.eval x=vx)
 (hrun:(Instr.mapUpdate T vm vk vx).run P w=.ok () w') (h:wpList P ops Q rest a w'):wpList P ops Q (o :: rest) a w:=by
 refine wpList_plain hgd fun _ hK=>?_
 unfold Oper.wp execOp
 simp only [ho,Sem.run_bind,Sem.run_pure,Result.andThen_ok,hm,hk,hx,hrun,Oper.upon]
 have e:a.put o.dst undef=a:=by rw [hd];rfl
 rw [e]
 exact hK _ _ h
def twosE (n:Nat):Array MapEntry:=(([⟨.int .i64 3,.func (.func 100) #[] #[],0⟩,⟨.int .i64 4,.func (.func 101) #[] #[],1⟩,⟨.int .i64 5,.func (.func 102) #[] #[],2⟩,⟨.int .i64 6,.func (.func 103) #[] #[],3⟩,⟨.int .i64 7,.func (.func 104) #[] #[],4⟩,⟨.int .i64 8,.func (.func 105) #[] #[],5⟩,⟨.int .i64 9,.func (.func 107) #[] #[],6⟩,⟨.int .i64 10,.func (.func 108) #[] #[],7⟩,⟨.int .i64 11,.func (.func 109) #[] #[],8⟩,⟨.int .i64 12,.func (.func 110) #[] #[],9⟩,⟨.int .i64 13,.func (.func 111) #[] #[],10⟩]:List MapEntry).take n).toArray
set_option maxRecDepth 100000 in
theorem twos_any (w:World):Calls Tryz.prog 62 #[] w fun e w'=>e=.returned (.map (some w.heap.size))∧MapB w' w.heap.size (twosE 11) 11∧Ext w w':=by
 have hmm:=@run_makeMap Tryz.prog
 go_enter Tryz.func62,Tryz.ntmps62
 go_upto_region 1 with (fail)
 go_step
 iterate 1 refine qls ?_
 have b0:MapB (w.alloc (.map #[] 0)) w.heap.size (twosE 0) 0:=heap_alloc_new w _
 have y0:Ext w (w.alloc (.map #[] 0)):=(Kept.refl _ w).alloc _
 generalize (w.alloc (.map #[] 0))=w0 at b0 y0 ⊢
 obtain ⟨w1,r1,b1,k1⟩:=insStep w0 w.heap.size (twosE 0) 0 3 (.func (.func 100) #[] #[]) b0 (by rfl)
 refine wpList_ins rfl 131 (.tmp 1) (.const (.int .i64 3)) (.func 100) rfl rfl rfl rfl rfl r1 ?_
 replace b1:MapB w1 w.heap.size (twosE 1) 1:=b1
 have y1:Ext w w1:=y0.trans' k1 (fun i hi e=>by omega)
 clear r1 k1 b0 y0
 obtain ⟨w2,r2,b2,k2⟩:=insStep w1 w.heap.size (twosE 1) 1 4 (.func (.func 101) #[] #[]) b1 (by rfl)
 refine wpList_ins rfl 131 (.tmp 1) (.const (.int .i64 4)) (.func 101) rfl rfl rfl rfl rfl r2 ?_
 replace b2:MapB w2 w.heap.size (twosE 2) 2:=b2
 have y2:Ext w w2:=y1.trans' k2 (fun i hi e=>by omega)
 clear r2 k2 b1 y1
 obtain ⟨w3,r3,b3,k3⟩:=insStep w2 w.heap.size (twosE 2) 2 5 (.func (.func 102) #[] #[]) b2 (by rfl)
 refine wpList_ins rfl 131 (.tmp 1) (.const (.int .i64 5)) (.func 102) rfl rfl rfl rfl rfl r3 ?_
 replace b3:MapB w3 w.heap.size (twosE 3) 3:=b3
 have y3:Ext w w3:=y2.trans' k3 (fun i hi e=>by omega)
 clear r3 k3 b2 y2
 obtain ⟨w4,r4,b4,k4⟩:=insStep w3 w.heap.size (twosE 3) 3 6 (.func (.func 103) #[] #[]) b3 (by rfl)
 refine wpList_ins rfl 131 (.tmp 1) (.const (.int .i64 6)) (.func 103) rfl rfl rfl rfl rfl r4 ?_
 replace b4:MapB w4 w.heap.size (twosE 4) 4:=b4
 have y4:Ext w w4:=y3.trans' k4 (fun i hi e=>by omega)
 clear r4 k4 b3 y3
 obtain ⟨w5,r5,b5,k5⟩:=insStep w4 w.heap.size (twosE 4) 4 7 (.func (.func 104) #[] #[]) b4 (by rfl)
 refine wpList_ins rfl 131 (.tmp 1) (.const (.int .i64 7)) (.func 104) rfl rfl rfl rfl rfl r5 ?_
 replace b5:MapB w5 w.heap.size (twosE 5) 5:=b5
 have y5:Ext w w5:=y4.trans' k5 (fun i hi e=>by omega)
 clear r5 k5 b4 y4
 obtain ⟨w6,r6,b6,k6⟩:=insStep w5 w.heap.size (twosE 5) 5 8 (.func (.func 105) #[] #[]) b5 (by rfl)
 refine wpList_ins rfl 131 (.tmp 1) (.const (.int .i64 8)) (.func 105) rfl rfl rfl rfl rfl r6 ?_
 replace b6:MapB w6 w.heap.size (twosE 6) 6:=b6
 have y6:Ext w w6:=y5.trans' k6 (fun i hi e=>by omega)
 clear r6 k6 b5 y5
 obtain ⟨w7,r7,b7,k7⟩:=insStep w6 w.heap.size (twosE 6) 6 9 (.func (.func 107) #[] #[]) b6 (by rfl)
 refine wpList_ins rfl 131 (.tmp 1) (.const (.int .i64 9)) (.func 107) rfl rfl rfl rfl rfl r7 ?_
 replace b7:MapB w7 w.heap.size (twosE 7) 7:=b7
 have y7:Ext w w7:=y6.trans' k7 (fun i hi e=>by omega)
 clear r7 k7 b6 y6
 obtain ⟨w8,r8,b8,k8⟩:=insStep w7 w.heap.size (twosE 7) 7 10 (.func (.func 108) #[] #[]) b7 (by rfl)
 refine wpList_ins rfl 131 (.tmp 1) (.const (.int .i64 10)) (.func 108) rfl rfl rfl rfl rfl r8 ?_
 replace b8:MapB w8 w.heap.size (twosE 8) 8:=b8
 have y8:Ext w w8:=y7.trans' k8 (fun i hi e=>by omega)
 clear r8 k8 b7 y7
 obtain ⟨w9,r9,b9,k9⟩:=insStep w8 w.heap.size (twosE 8) 8 11 (.func (.func 109) #[] #[]) b8 (by rfl)
 refine wpList_ins rfl 131 (.tmp 1) (.const (.int .i64 11)) (.func 109) rfl rfl rfl rfl rfl r9 ?_
 replace b9:MapB w9 w.heap.size (twosE 9) 9:=b9
 have y9:Ext w w9:=y8.trans' k9 (fun i hi e=>by omega)
 clear r9 k9 b8 y8
 obtain ⟨w10,r10,b10,k10⟩:=insStep w9 w.heap.size (twosE 9) 9 12 (.func (.func 110) #[] #[]) b9 (by rfl)
 refine wpList_ins rfl 131 (.tmp 1) (.const (.int .i64 12)) (.func 110) rfl rfl rfl rfl rfl r10 ?_
 replace b10:MapB w10 w.heap.size (twosE 10) 10:=b10
 have y10:Ext w w10:=y9.trans' k10 (fun i hi e=>by omega)
 clear r10 k10 b9 y9
 obtain ⟨w11,r11,b11,k11⟩:=insStep w10 w.heap.size (twosE 10) 10 13 (.func (.func 111) #[] #[]) b10 (by rfl)
 refine wpList_ins rfl 131 (.tmp 1) (.const (.int .i64 13)) (.func 111) rfl rfl rfl rfl rfl r11 ?_
 replace b11:MapB w11 w.heap.size (twosE 11) 11:=b11
 have y11:Ext w w11:=y10.trans' k11 (fun i hi e=>by omega)
 clear r11 k11 b10 y10
 go_wp2_with fail
 go_ret
 exact ⟨rfl,b11,y11⟩
theorem lookF (w:World) (g:Nat) (k:Int) (f:Value) (i:Nat) (hb:MapB w g (twosE 11) 11) (hf:Instr.findNow (.int .i64) (.int .i64 k) (twosE 11).toList 0=some (some (i,f))) :
 (Instr.lookup 131 (.map (some g)) (.int .i64 k) false).run Tryz.prog w=.ok f w:=by
 have hc:(Instr.checkKey (twosE 11).isEmpty 10000 3 (.int .i64 k)).run Tryz.prog w=.ok () w:=MapKept.run_checkKey (k:=.int .i64 k) Tryz.underlying3 (by simp [MapKept.IsKey]) _ 9999
 simp [Instr.lookup,run_underlying Tryz.underlying131,MapKept.run_getObj_map hb,hc,MapKept.run_findKey Tryz.underlying3 hf,Result.andThen]
def truthI (b:Bool):Int:=if b=true then 1 else 0
theorem truth_any (b:Bool) (w:World):Calls Tryz.prog 106 #[.bool b] w fun e w'=>e=.returned (.int .i32 (truthI b))∧w=w':=by
 cases b
 all_goals
  go_enter Tryz.func106,Tryz.ntmps106
  go_wp2_with fail
  go_ret
  exact ⟨rfl,rfl⟩
def twoI (k:Nat) (b c:Int):Int:=match k with
 | 3=>IntKind.i32.wrap (b+c)
 | 4=>IntKind.i32.wrap (b - c)
 | 5=>IntKind.i32.wrap (b * c)
 | 6=>if c=0 then 0 else IntKind.i32.wrap (b.tdiv c)
 | 7=>if c=0 then 0 else b.tmod c
 | 8=>truthI (b == c)
 | 9=>truthI (b != c)
 | 10=>truthI (decide (b < c))
 | 11=>truthI (decide (b≤c))
 | 12=>truthI (b != 0 && c != 0)
 | _=>truthI (b != 0 || c != 0)
open Go.RowKit
theorem two3 (b c:Int) (_hb:i32ok b) (_hc:i32ok c) (w:World):Calls Tryz.prog 100 #[.int .i32 b,.int .i32 c] w fun e w'=>e=.returned (.int .i32 (twoI 3 b c))∧w=w':=by
 unfold i32ok at _hb _hc
 go_enter Tryz.func100,Tryz.ntmps100
 go_wp2_with fail
 go_ret
 exact ⟨ret_int (by simp [twoI,IntKind.wrap_i32,wrap32]),rfl⟩
theorem two4 (b c:Int) (_hb:i32ok b) (_hc:i32ok c) (w:World):Calls Tryz.prog 101 #[.int .i32 b,.int .i32 c] w fun e w'=>e=.returned (.int .i32 (twoI 4 b c))∧w=w':=by
 unfold i32ok at _hb _hc
 go_enter Tryz.func101,Tryz.ntmps101
 go_wp2_with fail
 go_ret
 exact ⟨ret_int (by simp [twoI,IntKind.wrap_i32,wrap32]),rfl⟩
theorem two5 (b c:Int) (_hb:i32ok b) (_hc:i32ok c) (w:World):Calls Tryz.prog 102 #[.int .i32 b,.int .i32 c] w fun e w'=>e=.returned (.int .i32 (twoI 5 b c))∧w=w':=by
 unfold i32ok at _hb _hc
 go_enter Tryz.func102,Tryz.ntmps102
 go_wp2_with fail
 go_ret
 exact ⟨ret_int (by simp [twoI,IntKind.wrap_i32,wrap32]),rfl⟩
theorem two6 (b c:Int) (_hb:i32ok b) (_hc:i32ok c) (w:World):Calls Tryz.prog 103 #[.int .i32 b,.int .i32 c] w fun e w'=>e=.returned (.int .i32 (twoI 6 b c))∧w=w':=by
 unfold i32ok at _hb _hc
 by_cases h0:c=0
 ·have b0:(c == 0)=true:=by simp [h0]
  have H0:=zhd h0
  clear h0
  go_enter Tryz.func103,Tryz.ntmps103
  exact zz100
 ·have b0:(c == 0)=false:=by simp [h0]
  have H0:=zhd h0
  go_enter Tryz.func103,Tryz.ntmps103
  go_wp2_with fail
  go_ret
  exact ⟨ret_int (by simp [twoI,H0.out,IntKind.wrap_i32,wrap32]),rfl⟩
theorem two7 (b c:Int) (_hb:i32ok b) (_hc:i32ok c) (w:World):Calls Tryz.prog 104 #[.int .i32 b,.int .i32 c] w fun e w'=>e=.returned (.int .i32 (twoI 7 b c))∧w=w':=by
 unfold i32ok at _hb _hc
 by_cases h0:c=0
 ·have b0:(c == 0)=true:=by simp [h0]
  have H0:=zhd h0
  clear h0
  go_enter Tryz.func104,Tryz.ntmps104
  exact zz100
 ·have b0:(c == 0)=false:=by simp [h0]
  have H0:=zhd h0
  go_enter Tryz.func104,Tryz.ntmps104
  exact zz100
theorem two8 (b c:Int) (_hb:i32ok b) (_hc:i32ok c) (w:World):Calls Tryz.prog 105 #[.int .i32 b,.int .i32 c] w fun e w'=>e=.returned (.int .i32 (twoI 8 b c))∧w=w':=by
 unfold i32ok at _hb _hc
 go_enter Tryz.func105,Tryz.ntmps105
 exact zz91
theorem two9 (b c:Int) (_hb:i32ok b) (_hc:i32ok c) (w:World):Calls Tryz.prog 107 #[.int .i32 b,.int .i32 c] w fun e w'=>e=.returned (.int .i32 (twoI 9 b c))∧w=w':=by
 unfold i32ok at _hb _hc
 go_enter Tryz.func107,Tryz.ntmps107
 exact zz91
theorem two10 (b c:Int) (_hb:i32ok b) (_hc:i32ok c) (w:World):Calls Tryz.prog 108 #[.int .i32 b,.int .i32 c] w fun e w'=>e=.returned (.int .i32 (twoI 10 b c))∧w=w':=by
 unfold i32ok at _hb _hc
 go_enter Tryz.func108,Tryz.ntmps108
 exact zz91
theorem two11 (b c:Int) (_hb:i32ok b) (_hc:i32ok c) (w:World):Calls Tryz.prog 109 #[.int .i32 b,.int .i32 c] w fun e w'=>e=.returned (.int .i32 (twoI 11 b c))∧w=w':=by
 unfold i32ok at _hb _hc
 go_enter Tryz.func109,Tryz.ntmps109
 exact zz91
theorem two12 (b c:Int) (_hb:i32ok b) (_hc:i32ok c) (w:World):Calls Tryz.prog 110 #[.int .i32 b,.int .i32 c] w fun e w'=>e=.returned (.int .i32 (twoI 12 b c))∧w=w':=by
 unfold i32ok at _hb _hc
 by_cases h0:b=0
 ·have b0:(b != 0)=false:=by simp [h0]
  have H0:=zhd h0
  clear h0
  go_enter Tryz.func110,Tryz.ntmps110
  go_wp2_with fail
  refine (truth_any _ _).mono ?_
  rintro e w1 ⟨rfl,rfl⟩
  exact zz100
 ·have b0:(b != 0)=true:=by simp [h0]
  have H0:=zhd h0
  clear h0
  go_enter Tryz.func110,Tryz.ntmps110
  go_wp2_with fail
  refine (truth_any _ _).mono ?_
  rintro e w1 ⟨rfl,rfl⟩
  go_wp2_with fail
  go_ret
  exact ⟨ret_int (by unfold twoI;rw [b0];rfl),rfl⟩
theorem two13 (b c:Int) (_hb:i32ok b) (_hc:i32ok c) (w:World):Calls Tryz.prog 111 #[.int .i32 b,.int .i32 c] w fun e w'=>e=.returned (.int .i32 (twoI 13 b c))∧w=w':=by
 unfold i32ok at _hb _hc
 by_cases h0:b=0
 ·have b0:(b != 0)=false:=by simp [h0]
  have H0:=zhd h0
  clear h0
  go_enter Tryz.func111,Tryz.ntmps111
  go_wp2_with fail
  refine (truth_any _ _).mono ?_
  rintro e w1 ⟨rfl,rfl⟩
  exact zz100
 ·have b0:(b != 0)=true:=by simp [h0]
  have H0:=zhd h0
  clear h0
  go_enter Tryz.func111,Tryz.ntmps111
  go_wp2_with fail
  refine (truth_any _ _).mono ?_
  rintro e w1 ⟨rfl,rfl⟩
  go_wp2_with fail
  go_ret
  exact ⟨ret_int (by unfold twoI;rw [b0];rfl),rfl⟩
end Go.Proofs.YtbfbabbcdochjaaGreatDoor.Mc
