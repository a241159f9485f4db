/- Several texts joined: Ud. -/
import Derived.Test.YtbfbabbcdochjaaGreatDoorRxpk
import Derived.Test.YtbfbabbcdochjaaGreatDoorRxbg
set_option maxHeartbeats 4000000
namespace Go.Proofs.YtbfbabbcdochjaaGreatDoor
open Go.RowKit So
set_option maxRecDepth 100000 in
theorem rnamed_any (c:Pc) (p:Pr) (A:Option Addr) (n k:Nat) (l:List Str) (kind:Int) (name:Str) (eA:Option Addr) (en ec:Nat) (low high:Int) (lA:Option Addr) (ln lc:Nat) (xA:Option Addr) (xn xc:Nat) (deep:Nat) (hs:name.size≤maxLen) (N:Nat) (w:World) (hN:N≤w.heap.size) (h:PAt w N c p) (hl:StrSl w N A n l) :
 Calls Tryz.prog 149 #[.agg (knCells c A n k),.agg (scells kind name eA en ec low high lA ln lc xA xn xc),.int .i64 (deep:Int)] w fun e w'=>e=.returned (.agg (fltC (named (updAll (knV p.vars) l) kind name low high deep)))∧Ext w w':=by
 obtain ⟨X,hX⟩:∃ X,X=named (updAll (knV p.vars) l) kind name low high deep:=⟨_,rfl⟩
 rw [← hX]
 obtain ⟨v,hv⟩:∃ v,v=updAll (knV p.vars) l name:=⟨_,rfl⟩
 have HV:=J hv
 have HX:Hid (X=if kind=0 ∨ kind=1 ∨ kind=5 then ored (must (v != 0) 6 name) (ored (must (v == (if kind=1 then 2 else 1)) 11 name) (if kind=5 then must (btw low 2 1000) 2 name else none)) else if kind=3 then ored (must (isName name) 6 name) (ored (must (v == 0) 7 name) (ored (must (word low && word high && decide (high - low≤63)) 2 name) (must (decide (deep < 8)) 25 name))) else none):=J (by rw [hX,hv];rfl)
 clear hX hv
 have HNM:=J hs
 clear hs
 have hx0:=(((kR (fun _=>False) w).alloc (.cells (knCells c A n k) 120)).alloc (.cells (scells kind name eA en ec low high lA ln lc xA xn xc) 86)).alloc (.cells #[.int .i64 0,.string ⟨#[]⟩] 60)
 have hK:=((bN w 120 (knCells c A n k)).alloc (.cells (scells kind name eA en ec low high lA ln lc xA xn xc) 86)).alloc (.cells #[.int .i64 0,.string ⟨#[]⟩] 60)
 have hS:=(Blk.new' (w.alloc (.cells (knCells c A n k) 120)) 86 (scells kind name eA en ec low high lA ln lc xA xn xc) (w.heap.size+1) zb86).alloc (.cells #[.int .i64 0,.string ⟨#[]⟩] 60)
 have hD:=Blk.new' ((w.alloc (.cells (knCells c A n k) 120)).alloc (.cells (scells kind name eA en ec low high lA ln lc xA xn xc) 86)) 60 #[.int .i64 0,.string ⟨#[]⟩] (w.heap.size+1+1) zb86
 go_enter Tryz.func149,Tryz.ntmps149
 go_upto_region 1 with (fail)
 have HPA:=J (h.ext hx0 hN)
 have HSL:=J (hl.ext hx0)
 have HNW:=J (Nat.le_trans hN hx0.size)
 generalize hW:(((w.alloc (.cells (knCells c A n k) 120)).alloc (.cells (scells kind name eA en ec low high lA ln lc xA xn xc) 86)).alloc (.cells #[.int .i64 0,.string ⟨#[]⟩] 60))=W at hx0 hK hS hD HPA HSL HNW ⊢
 clear hW h hl
 obtain ⟨rb,hrb⟩:∃ rb,rb=w.heap.size+1+1:=⟨_,rfl⟩
 rw [← hrb] at hD ⊢
 obtain ⟨sb,hsb⟩:∃ sb,sb=w.heap.size+1:=⟨_,rfl⟩
 rw [← hsb] at hS ⊢
 have HRW:=J (show w.heap.size≤rb by omega)
 have HD:=J hD
 have HX0:=J hx0
 have HK:=J hK
 have HS:=J hS
 clear hD hx0 hrb hsb hK hS
 generalize w.heap.size=kb at HK ⊢
 have HXC:=J (kR (fun _=>False) W)
 refine zy10 ?_;intro hDr hmr hhr hlr hcS hlS hhK hgK hlK
 by_cases h0:kind=0
 ·subst h0
  have HX2:=J (show X=ored (must (v != 0) 6 name) (must (v == 1) 11 name) by rw [HX.out];simp)
  clear HX
  go_wp2_with fail
  refine zy37 ?_;clear hDr hmr hhr hlr hcS hlS hhK hgK hlK;intro w2 HXC
  refine zy10 ?_;intro hDr hmr hhr hlr hcS hlS hhK hgK hlK
  by_cases hv0:v=0
  ·have q0:((v:Int) == 0)=true:=by simp [hv0]
   exact zz55
  ·have q0:((v:Int) == 0)=false:=by simp;omega
   have n0:(v != 0)=true:=by simp [hv0]
   have HX3:=J (show X=must (v == 1) 11 name by rw [HX2.out,n0,must_true,ored_none])
   clear hv0
   by_cases hv1:v=1
   ·have q1:((v:Int) == 1)=true:=by simp [hv1]
    exact zz22
   ·have q1:((v:Int) == 1)=false:=by simp;omega
    have n1:(v == 1)=false:=by simp [hv1]
    exact zz52
 ·by_cases h1:kind=1
  ·subst h1
   have HX2:=J (show X=ored (must (v != 0) 6 name) (must (v == 2) 11 name) by rw [HX.out];simp)
   clear HX
   go_wp2_with fail
   refine zy37 ?_;clear hDr hmr hhr hlr hcS hlS hhK hgK hlK;intro w2 HXC
   refine zy10 ?_;intro hDr hmr hhr hlr hcS hlS hhK hgK hlK
   by_cases hv0:v=0
   ·have q0:((v:Int) == 0)=true:=by simp [hv0]
    exact zz55
   ·have q0:((v:Int) == 0)=false:=by simp;omega
    have n0:(v != 0)=true:=by simp [hv0]
    have HX3:=J (show X=must (v == 2) 11 name by rw [HX2.out,n0,must_true,ored_none])
    clear hv0
    by_cases hv1:v=2
    ·have q1:((v:Int) == 2)=true:=by simp [hv1]
     have q2:((v:Int) != 2)=false:=by simp [hv1]
     exact zz22
    ·have q1:((v:Int) == 2)=false:=by simp;omega
     have q2:((v:Int) != 2)=true:=by simp;omega
     have n1:(v == 2)=false:=by simp [hv1]
     exact zz52
  ·by_cases h5:kind=5
   ·subst h5
    have HX2:=J (show X=ored (must (v != 0) 6 name) (ored (must (v == 1) 11 name) (must (btw low 2 1000) 2 name)) by rw [HX.out];simp)
    clear HX
    go_wp2_with fail
    refine zy37 ?_;clear hDr hmr hhr hlr hcS hlS hhK hgK hlK;intro w2 HXC
    refine zy10 ?_;intro hDr hmr hhr hlr hcS hlS hhK hgK hlK
    by_cases hv0:v=0
    ·have q0:((v:Int) == 0)=true:=by simp [hv0]
     exact zz55
    ·have q0:((v:Int) == 0)=false:=by simp;omega
     have n0:(v != 0)=true:=by simp [hv0]
     have HX3:=J (show X=ored (must (v == 1) 11 name) (must (btw low 2 1000) 2 name) by rw [HX2.out,n0,must_true,ored_none])
     clear hv0
     by_cases hv1:v=1
     ·have q1:((v:Int) == 1)=true:=by simp [hv1]
      have HX4:=J (show X=must (btw low 2 1000) 2 name by rw [HX3.out,hv1];rfl)
      clear hv1
      go_wp2_with fail
      refine (in_any low 2 1000 _).mono ?_
      rintro e w3 ⟨rfl,rfl⟩
      cases hb:btw low 2 1000
      ·have HR:=J (show X=some ⟨2,name⟩ by rw [HX4.out,hb,must_false])
       exact zz61
      ·have HR:=J (show X=none by rw [HX4.out,hb,must_true])
       exact zz23
     ·have q1:((v:Int) == 1)=false:=by simp;omega
      have n1:(v == 1)=false:=by simp [hv1]
      have HR:=J (show X=some ⟨11,name⟩ by rw [HX3.out,n1,must_false,ored_some])
      clear hv1
      exact zz61
   ·by_cases h3:kind=3
    ·subst h3
     have HX2:=J (show X=ored (must (isName name) 6 name) (ored (must (v == 0) 7 name) (ored (must (word low && word high && decide (high - low≤63)) 2 name) (must (decide (deep < 8)) 25 name))) by rw [HX.out];simp)
     clear HX
     go_wp2_with fail
     refine (risname_any name HNM.out _).mono ?_
     rintro e w2 ⟨rfl,hx2⟩
     clear hDr hmr hhr hlr hcS hlS hhK hgK hlK
     have HXC:=J (HXC.out.trans hx2)
     clear hx2
     refine zy10 ?_;intro hDr hmr hhr hlr hcS hlS hhK hgK hlK
     cases hn:isName name
     ·have HR:=J (show X=some ⟨6,name⟩ by rw [HX2.out,hn,must_false,ored_some])
      exact zz61
     ·have HX3:=J (show X=ored (must (v == 0) 7 name) (ored (must (word low && word high && decide (high - low≤63)) 2 name) (must (decide (deep < 8)) 25 name)) by rw [HX2.out,hn,must_true,ored_none])
      clear HX2
      go_wp2_with fail
      refine zy37 ?_;clear hDr hmr hhr hlr hcS hlS hhK hgK hlK;intro w2 HXC
      refine zy10 ?_;intro hDr hmr hhr hlr hcS hlS hhK hgK hlK
      by_cases hv0:v=0
      ·have q0:((v:Int) == 0)=true:=by simp [hv0]
       have HX4:=J (show X=ored (must (word low && word high && decide (high - low≤63)) 2 name) (must (decide (deep < 8)) 25 name) by rw [HX3.out,hv0];rfl)
       clear hv0 HX3
       go_wp2_with fail
       refine (word_any low _).mono ?_
       rintro e w3 ⟨rfl,rfl⟩
       cases hw1:word low
       ·have HR:=J (show X=some ⟨2,name⟩ by rw [HX4.out,hw1];rfl)
        exact zz61
       ·go_wp2_with fail
        refine (word_any high _).mono ?_
        rintro e w3 ⟨rfl,rfl⟩
        cases hw2:word high
        ·have HR:=J (show X=some ⟨2,name⟩ by rw [HX4.out,hw1,hw2];rfl)
         exact zz61
        ·have hb1:-2147483648≤low∧low≤2147483647:=by simpa [word] using hw1
         have HX5:=J (show X=ored (must (decide (high - low≤63)) 2 name) (must (decide (deep < 8)) 25 name) by rw [HX4.out,hw1,hw2,Bool.true_and,Bool.true_and])
         clear HX4 hw1 hw2
         have hwr:IntKind.i64.wrap (low+63)=low+63:=by rw [IntKind.wrap_i64];omega
         by_cases hgt:high > low+63
         ·have HR:=J (show X=some ⟨2,name⟩ by rw [HX5.out,decide_eq_false zb85,must_false,ored_some])
          exact zz61
         ·have HX6:=J (show X=must (decide (deep < 8)) 25 name by rw [HX5.out,decide_eq_true zb85,must_true,ored_none])
          by_cases hd8:(deep:Int) ≥ 8
          ·have HR:=J (show X=some ⟨25,name⟩ by rw [HX6.out,decide_eq_false zb85,must_false])
           exact zz61
          ·have HR:=J (show X=none by rw [HX6.out,decide_eq_true zb85,must_true])
           exact zz23
      ·have q0:((v:Int) == 0)=false:=by simp;omega
       have n0:(v == 0)=false:=by simp [hv0]
       have HR:=J (show X=some ⟨7,name⟩ by rw [HX3.out,n0,must_false,ored_some])
       clear hv0
       exact zz61
    ·have HR:=J (show X=none by rw [HX.out,if_neg zb85,if_neg h3])
     exact zz23
end Go.Proofs.YtbfbabbcdochjaaGreatDoor
