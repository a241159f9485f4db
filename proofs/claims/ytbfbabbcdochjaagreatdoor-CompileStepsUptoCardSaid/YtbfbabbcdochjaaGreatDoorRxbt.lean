/- Several texts joined: Jz, Ui, Uj, Uo, Us. -/
import Derived.ChangeMaps5
import Derived.Test.YtbfbabbcdochjaaGreatDoorRxpk
import Derived.Test.YtbfbabbcdochjaaGreatDoorRxbg
import Derived.Test.YtbfbabbcdochjaaGreatDoorRxbp
import Derived.Test.YtbfbabbcdochjaaGreatDoorRxbs
set_option maxHeartbeats 4000000
namespace Go.Proofs.YtbfbabbcdochjaaGreatDoor
open Go.RowKit So Mc
theorem own_len {w:World} {base:Nat} {s:Sl3} {l:List Int} (h:w.ownsRow base 21 1 s.v s.n (mems l)):s.n=l.length:=by
 have:=h.1
 rw [mems_len] at this
 omega
set_option maxRecDepth 100000 in
theorem lpays_any (c:Pc) (p:Pr) (vs:Sl3) (V:List Int) (N:Nat) (w:World) (hN:N≤w.heap.size) (h:PAt w N c p) (hL:LaidAt w) (hO:OpsAt w) (hcap:Caps c) (hz:psize p≤1099511627776) (hv:M32 w N vs V) :
 Calls Tryz.prog 7 #[.agg c.cells,vs.v] w fun e w'=>e=.returned (.bool true)∧Ext w w':=by
 refine zy73 ?_;intro hx0 hB
 go_enter Tryz.func7,Tryz.ntmps7
 go_upto_region 1 with (fail)
 refine zy69 ?_;intro HPA HNW
 have HLW:=J (hL.ext hx0)
 have HOW:=J (hO.ext hx0)
 have HV:=J (hv.ext hx0)
 have HCAP:=J hcap
 have HZ:=J hz
 generalize hW:w.alloc (.cells c.cells 26)=W at hx0 hB HPA HNW HLW HOW HV ⊢
 have HX0:=J hx0
 have HB:=J hB
 clear hW hx0 hB h hN hL hO hcap hz hv
 generalize w.heap.size=pb at HB ⊢
 have i1:=bH HB.out
 have i2:=bG HB.out
 have i3:=HB.out.lt
 go_wp2_with fail
 refine (lbuild_any c p N _ HNW.out HPA.out HLW.out HZ.out).mono ?_
 rintro e w1 ⟨hx1,hb⟩
 have HX1:=J hx1
 clear hx1 i1 i2 i3
 cases hb with
 | no =>
  exact zz83
 | ok hf hc hl hs cb k hk =>
  have HF:=J hf
  have HC:=J hc
  have HNL:=J hl
  have HST:=J hs
  have HK:=J hk
  have HCK:=J (Chk.of hc HZ.out)
  clear hf hc hl hs hk
  refine zy80 ?_;intro i1 i2 i3
  go_wp2_with fail
  refine zy79 ?_;intro w2 hx2 HX2
  have HY2:=J hx2
  clear hx2 i1 i2 i3
  have i1:=bH (HB.out.ext HX2.out)
  have i2:=bG (HB.out.ext HX2.out)
  have i3:=(HB.out.ext HX2.out).lt
  go_wp2_with fail
  refine (lfit_any c p 4 zb85 vs ⟨none,0,0⟩ V [] N _ (Nat.le_trans HNW.out HX2.out.size) (HPA.out.ext HX2.out HNW.out) (HV.out.ext HX2.out) (m32_nil _ _) HCK.out).mono ?_
  rintro e w3 ⟨sv,sa,rfl,hov,-,hx3⟩
  have HX3:=J (HX2.out.trans hx3)
  have HY3:=J (HY2.out.trans hx3)
  have HSV:=J (M32.of_own hov (fitV_ok HV.out.2.1))
  clear hx3 hov i1 i2 i3
  have HK3:=J ((HK.out.ext HY3.out).up HY3.out.size (Nat.le_refl _))
  have HO3:=J (HOW.out.ext HX3.out)
  have HF4:=J (show fitsN p (4:Nat) (fitV p 4 V) []=0 from fit_fits HCK.out zb85 V [])
  have HF1:=J (show fitsN p (1:Nat) (fitV p 4 V) []=0 from fit_fits HCK.out (i:=1) zb85 V [])
  go_wp2_with fail
  refine (crun_full cb w3.heap.size k p 4 zb85 sv ⟨none,0,0⟩ (fitV p 4 V) [] w3 (Nat.le_refl _) HK3.out HSV.out (m32_nil _ _) HCK.out HNL.out HST.out HO3.out HF4.out).mono ?_
  rintro e w4 ⟨hx4,v,rfl,hv4⟩
  have hq4:ouR 4 (runR p 4 (fitV p 4 V) [])=⟨[],false,0,0,0,(runR p 4 (fitV p 4 V) []).asks,(runR p 4 (fitV p 4 V) []).rest⟩:=by unfold ouR;rw [no_refuse HCK.out 4 zb85 zb85];rfl
  rw [hq4] at hv4
  obtain ⟨pc4,m4,-,hci4⟩:=run_sim HCK.out 4 zb85 (HST.out 4 zb85) HF4.out HSV.out.2.1 (fun x hx=>by simp at hx)
  have HR4:=J (rest_in HCK.out 4 zb85 (fitV p 4 V) [])
  obtain ⟨R,hR⟩:∃ R,R=runR p 4 (fitV p 4 V) []:=⟨_,rfl⟩
  rw [← hR] at hv4 hci4 HR4
  have HAL:=J (show (R.asks.length:Int)=p.seats from hci4.alen)
  have HAS:=J (show ∀ x ∈ R.asks,0≤x∧x≤1073741823 from fun x hx=>by
   obtain ⟨j,hj,e⟩:=List.mem_iff_getElem.1 hx
   have h1:(R.asks.length:Int)=p.seats:=hci4.alen
   have h2:=hci4.asks j zb85 (by show (j:Int) < p.seats;omega)
   have h3:R.asks.getD j 0=x:=by rw [← e];simp [hj]
   simp only [Int.toNat_natCast] at h2
   rw [h3] at h2
   exact h2.2)
  have HVO:=J hv4
  have HX4:=J (HX3.out.trans hx4)
  have HY4:=J hx4
  clear hx4 hq4 hci4 hR hv4
  have y5:=(kR (fun _=>False) w4).alloc (.cells v.c 38)
  have b5:=bN w4 38 v.c
  go_upto_region 6 with (fail)
  generalize (w4.alloc (.cells v.c 38))=w5 at y5 b5 ⊢
  generalize w4.heap.size=ob at b5 ⊢
  have HB5:=J b5
  have HX5:=J (HX4.out.trans y5)
  have HY5:=J (HY4.out.trans y5)
  have HZ5:=J y5
  clear y5 b5
  go_wp2_with fail
  refine (crun_full cb w5.heap.size k p 1 zb85 sv ⟨none,0,0⟩ (fitV p 4 V) [] w5 (Nat.le_refl _) ((HK3.out.ext HY5.out).up HY5.out.size (Nat.le_refl _)) ((HSV.out.ext HY5.out).mono HY5.out.size) (m32_nil _ _) HCK.out HNL.out HST.out (HO3.out.ext HY5.out) HF1.out).mono ?_
  rintro e w6 ⟨hx6,u,rfl,hu6⟩
  have hq6:ouR 1 (runR p 1 (fitV p 4 V) [])=⟨[],false,(runR p 1 (fitV p 4 V) []).seat,0,0,[],0⟩:=by unfold ouR;rw [no_refuse HCK.out 1 zb85 zb85];rfl
  rw [hq6] at hu6
  have HUO:=J hu6
  have HX6:=J (HX5.out.trans hx6)
  have HY6:=J hx6
  clear hx6 hq6 hu6
  have y7:=(kR (fun _=>False) w6).alloc (.cells u.c 38)
  have b7:=bN w6 38 u.c
  go_upto_region 7 with (fail)
  generalize (w6.alloc (.cells u.c 38))=w7 at y7 b7 ⊢
  generalize w6.heap.size=ub at b7 ⊢
  have HX7:=J (HX6.out.trans y7)
  have HZ7:=J (HY6.out.trans y7)
  have HB7:=J b7
  clear y7 b7
  have HVB:=J (HB5.out.ext HZ7.out)
  have HPB:=J (HB.out.ext HX7.out)
  have hrest:v.rest=R.rest:=HVO.out.rest
  have ha:v.asks.n=R.asks.length:=own_len HVO.out.asks
  have hun:u.vars.n=0:=own_len HUO.out.vars
  have hse:=HPA.out.seats
  have hr4:=HR4.out
  have hal:=HAL.out
  have g1:((v.asks.n:Int) != c.seats)=false:=by simp;omega
  have g2:decide (v.rest < 0)=false:=decide_eq_false zb85
  have g3:decide (c.seats≤v.rest)=false:=decide_eq_false zb85
  have g4:v.refused=false:=HVO.out.refused
  have g5:u.refused=false:=HUO.out.refused
  have g6:((u.vars.n:Int) != 0)=false:=by rw [hun];rfl
  have HVN:=J ha
  have HAM:=J (M32.ext (M32.of_own HVO.out.asks (fun x hx=>by have:=HAS.out x hx;unfold i32ok;omega)) (HZ5.out.trans HZ7.out))
  clear hrest ha hun hse hr4 hal
  have i1:=bC HVB.out
  have i2:=HVB.out.lt
  have i3:=bC HB7.out
  have i4:=HB7.out.lt
  have i5:=bC HPB.out
  have i6:=HPB.out.lt
  have hn8:v.asks.n≤8:=by have:=HVN.out;have:=HAL.out;have:=HCK.out.seats;omega
  go_wp2_with fail
  clear g1 g2 g3 g4 g5 g6 i1 i2 i3 i4 i5 i6
  go_loopw [13] (fun t13 wr=>∃ j:Nat,j≤v.asks.n∧t13=.int .i64 j∧Ext w7 wr) (fun t13 _=>v.asks.n - (intOf t13).toNat)
  case atStart=>exact ⟨0,Nat.zero_le _,rfl,kR _ _⟩
  case round =>
   obtain ⟨j,hj,rfl,hk⟩:=hrel
   have HKJ:=J hk
   clear hk
   have b0:=HVB.out.ext HKJ.out
   by_cases hlt:j < v.asks.n
   ·have hltI:(j:Int) < v.asks.n:=by omega
    obtain ⟨-,-,ab,ao,hA,hE⟩:=HAM.out
    have hA:=hA zb85
    have hr:=(hE zb85).2.ext HKJ.out
    have hjl:j < R.asks.length:=by have:=HVN.out;omega
    have hc:=Row.mem hr j hjl
    have hcl:=hr.lt
    have hxr:=HAS.out R.asks[j] (List.getElem_mem hjl)
    generalize R.asks[j]=x at hc hxr
    have g1:decide (x < 0)=false:=decide_eq_false zb85
    have g2:decide (1073741823 < x)=false:=decide_eq_false zb85
    have hA5:wr.cell? ⟨ob,5,none⟩=some (.slice (some ⟨ab,ao,none⟩) v.asks.n v.asks.c):=by rw [← hA];exact bC b0 5
    have hol:=b0.lt
    clear hr hA hE hxr b0
    go_wp2_with fail
    go_roundw
    case rel=>exact ⟨j+1,hlt,by go_num,HKJ.out⟩
    case measure=>simp only [intOf];omega
   ·obtain rfl:j=v.asks.n:=by omega
    have i1:=bC b0
    have i2:=b0.lt
    clear b0
    have HXE:=J (HX7.out.trans HKJ.out)
    go_wp2_with fail
    refine (told16_any wr (HLW.out.ext HXE.out) (HOW.out.ext HXE.out)).mono ?_
    rintro e w9 ⟨rfl,hx9⟩
    go_wp2_with fail
    go_ret
    exact ⟨rfl,HX0.out.trans (HXE.out.trans hx9)⟩
open Go.RowKit So
theorem Roomy.set {c c':Pc} {k:Nat} (h:Roomy c (k+1)) (hc:∀ j,(slP c' j).n≤(slP c j).n+1):Roomy c' k:=fun j=>by
 have:=h j
 have:=hc j
 omega
open Go.RowKit So
open Go.RowKit Go.Deep Go.ChangeShapes Go.WideShapes So
section
variable {H:Type} {enc:TypeId × Value→H} {P:Program} {w:World} {base:Nat} {held:Bool}
theorem slice_caps {T E:TypeId} {fuel:Nat} {A:Option Addr} {n cap:Nat} {d:DataW H} {ps:List MemPlace} (hu:P.underlying T=some (.slice E)) (h:DataW.trod enc P w base (fun _=>true) held fuel T [.slice A n cap]=some (d,ps)) (hw:light P T d) :
 n≤cap∧(A=none→cap=0)∧n * P.bytesOf E≤reachBytes:=by
 rcases DataW.trod_slice hu h with ⟨hcs,_⟩ | ⟨a,len,cap',elems,rest,m,hfu,hcs,hx,_,hl,hm,hlen,hel,hsp,_⟩
 ·simp only [List.cons.injEq,Value.slice.injEq,and_true] at hcs
  obtain ⟨rfl,rfl,rfl⟩:=hcs
  exact ⟨Nat.le_refl _,fun _=>rfl,by simp⟩
 ·simp only [List.cons.injEq,Value.slice.injEq,and_true] at hcs
  obtain ⟨rfl,rfl,rfl⟩:=hcs
  obtain ⟨hd,-⟩:=Prod.mk.inj hx
  subst hd
  unfold light at hw
  rw [DataW.weights] at hw
  simp only [hu,List.all_cons,Bool.and_eq_true,decide_eq_true_eq,List.length_map] at hw
  refine ⟨hl,(fun e=>nomatch e),Nat.le_trans (Nat.mul_le_mul_right _ ?_) hw.1⟩
  omega
end
section
variable {H:Type} {enc:TypeId × Value→H} {w:World} {base:Nat} {held:Bool}
set_option maxRecDepth 100000 in
theorem caps_of {fuel:Nat} {c:Pc} {d:DataW H} {ps:List MemPlace} (hh:Trd w base held enc fuel 26 c.cells.toList d ps):Caps c∧Roomy c 2:=by
 obtain ⟨h,hw⟩:=hh
 obtain ⟨m,rfl,hcl,hf⟩:=fields_of Tryz.underlying26 h hw
 obtain ⟨d3,p3,k3,l3⟩:=hf 3 _ rfl
 have k3:DataW.trod enc Tryz.prog w base (fun _=>true) held m 23 ((c.cells.toList.drop 3).take (Tryz.prog.cellsOf 23))=some (d3,p3):=k3
 rw [cellsSlV] at k3
 have l3:light Tryz.prog 23 d3:=l3
 obtain ⟨d4,p4,k4,l4⟩:=hf 4 _ rfl
 have k4:DataW.trod enc Tryz.prog w base (fun _=>true) held m 24 ((c.cells.toList.drop 4).take (Tryz.prog.cellsOf 24))=some (d4,p4):=k4
 rw [cellsSlS] at k4
 have l4:light Tryz.prog 24 d4:=l4
 obtain ⟨d5,p5,k5,l5⟩:=hf 5 _ rfl
 have k5:DataW.trod enc Tryz.prog w base (fun _=>true) held m 24 ((c.cells.toList.drop 5).take (Tryz.prog.cellsOf 24))=some (d5,p5):=k5
 rw [cellsSlS] at k5
 have l5:light Tryz.prog 24 d5:=l5
 obtain ⟨d6,p6,k6,l6⟩:=hf 6 _ rfl
 have k6:DataW.trod enc Tryz.prog w base (fun _=>true) held m 23 ((c.cells.toList.drop 6).take (Tryz.prog.cellsOf 23))=some (d6,p6):=k6
 rw [cellsSlV] at k6
 have l6:light Tryz.prog 23 d6:=l6
 obtain ⟨d7,p7,k7,l7⟩:=hf 7 _ rfl
 have k7:DataW.trod enc Tryz.prog w base (fun _=>true) held m 24 ((c.cells.toList.drop 7).take (Tryz.prog.cellsOf 24))=some (d7,p7):=k7
 rw [cellsSlS] at k7
 have l7:light Tryz.prog 24 d7:=l7
 obtain ⟨d9,p9,k9,l9⟩:=hf 9 _ rfl
 have k9:DataW.trod enc Tryz.prog w base (fun _=>true) held m 24 ((c.cells.toList.drop 9).take (Tryz.prog.cellsOf 24))=some (d9,p9):=k9
 rw [cellsSlS] at k9
 have l9:light Tryz.prog 24 d9:=l9
 obtain ⟨d10,p10,k10,l10⟩:=hf 10 _ rfl
 have k10:DataW.trod enc Tryz.prog w base (fun _=>true) held m 24 ((c.cells.toList.drop 10).take (Tryz.prog.cellsOf 24))=some (d10,p10):=k10
 rw [cellsSlS] at k10
 have l10:light Tryz.prog 24 d10:=l10
 have q3:=slice_caps Tryz.underlying23 (show DataW.trod enc Tryz.prog w base (fun _=>true) held m 23 [.slice c.vars.A c.vars.n c.vars.c]=_ from k3) l3
 have q4:=slice_caps Tryz.underlying24 (show DataW.trod enc Tryz.prog w base (fun _=>true) held m 24 [.slice c.start.A c.start.n c.start.c]=_ from k4) l4
 have q5:=slice_caps Tryz.underlying24 (show DataW.trod enc Tryz.prog w base (fun _=>true) held m 24 [.slice c.turn.A c.turn.n c.turn.c]=_ from k5) l5
 have q6:=slice_caps Tryz.underlying23 (show DataW.trod enc Tryz.prog w base (fun _=>true) held m 23 [.slice c.params.A c.params.n c.params.c]=_ from k6) l6
 have q7:=slice_caps Tryz.underlying24 (show DataW.trod enc Tryz.prog w base (fun _=>true) held m 24 [.slice c.play.A c.play.n c.play.c]=_ from k7) l7
 have q9:=slice_caps Tryz.underlying24 (show DataW.trod enc Tryz.prog w base (fun _=>true) held m 24 [.slice c.quiet.A c.quiet.n c.quiet.c]=_ from k9) l9
 have q10:=slice_caps Tryz.underlying24 (show DataW.trod enc Tryz.prog w base (fun _=>true) held m 24 [.slice c.pays.A c.pays.n c.pays.c]=_ from k10) l10
 rw [bytesS] at q4 q5 q7 q9 q10
 refine ⟨⟨⟨q3.1,q3.2.1⟩,⟨q4.1,q4.2.1⟩,⟨q5.1,q5.2.1⟩,⟨q6.1,q6.2.1⟩,⟨q7.1,q7.2.1⟩,⟨q9.1,q9.2.1⟩,⟨q10.1,q10.2.1⟩⟩,fun i=>?_⟩
 have hrb:reachBytes=140737488351232:=rfl
 rw [hrb] at q4 q5 q7 q9 q10
 match i with
 | 0=>show c.start.n * 112+2 * 112≤_;omega
 | 1=>show c.turn.n * 112+2 * 112≤_;omega
 | 2=>show c.play.n * 112+2 * 112≤_;omega
 | 3=>show c.quiet.n * 112+2 * 112≤_;omega
 | _+4=>show c.pays.n * 112+2 * 112≤_;omega
end
open Go.RowKit Go.Deep Go.ChangeShapes Go.WideShapes So
section
variable {H:Type} {enc:TypeId × Value→H} {P:Program} {w:World} {base:Nat} {held:Bool}
theorem map_getD {α:Type} (x:α) (ds:List α):(List.range ds.length).map (fun i=>(ds[i]?).getD x)=ds :=
 List.ext_getElem zb86 (fun i h1 h2=>by simp [List.getElem?_eq_getElem h2])
theorem open_rows3 {T E:TypeId} {sz fuel:Nat} {v:Value} {d:DataW H} {ps:List MemPlace} (hu:P.underlying T=some (.slice E)) (hsz:P.cellsOf E=sz) (hpos:0 < sz) (h:DataW.trod enc P w base (fun _=>true) held fuel T [v]=some (d,ps)) (hw:light P T d) :
 ∃ (A:Option Addr) (b off len cap:Nat) (rs:List (List Value × DataW H)),v=.slice A len cap∧(0 < len→A=some ⟨b,off,none⟩)∧rs.length=len∧(0 < len→Row w b off (rs.map (·.1)).flatten) ∧
  (∀ r ∈ rs,r.1.length=sz∧∃ n ps',n < fuel∧DataW.trod enc P w base (fun _=>true) held n E r.1=some (r.2,ps')∧light P E r.2)∧len * P.bytesOf E≤reachBytes∧Rows.uptoBulkAll (rs.map (·.2))≤Rows.uptoBulk d:=by
 rcases DataW.trod_slice hu h with ⟨hcs,_⟩ | ⟨a,len,cap,elems,rest,n,hfu,hcs,hx,_,hl,hm,hlen,hel,hsp,_⟩
 ·simp at hcs
  exact ⟨none,0,0,0,0,[],hcs,fun h=>by omega,rfl,fun h=>by omega,fun _ h=>by simp at h,by omega,by simp [Rows.uptoBulkAll]⟩
 ·simp at hcs
  obtain ⟨hd,-⟩:=Prod.mk.inj hx
  subst hd
  unfold light at hw
  rw [DataW.weights] at hw
  simp only [hu,List.all_cons,List.all_append,Bool.and_eq_true,decide_eq_true_eq,List.length_map] at hw
  obtain ⟨hw1,hw2,-⟩:=hw
  have hla:=light_all hw2
  rw [hsz] at hel
  obtain ⟨ds,hds⟩:∃ ds,ds=elems.map (·.1):=⟨_,rfl⟩
  have hdl:ds.length=len:=by rw [hds,List.length_map,hlen]
  have hch:∀ i,∃ cs,i < len→cs.length=sz∧(∃ ps',DataW.trod enc P w base (fun _=>true) held n E cs=some ((ds[i]?).getD .nil,ps')∧light P E ((ds[i]?).getD .nil))∧∀ j,j < sz→w.cell? ((a.add (i * sz)).add j)=cs[j]?:=fun i=>by
   by_cases hil:i < len
   ·have hie:i < elems.length:=by rw [hlen];exact hil
    have he:=hel i hil
    rw [List.getElem?_eq_getElem hie,Option.bind_eq_some_iff] at he
    obtain ⟨cs,hc,ht⟩:=he
    obtain ⟨_,hcl,hat⟩:=World.cells?_some hc
    have hg:(ds[i]?).getD .nil=(elems[i]'hie).1:=by rw [hds,List.getElem?_map,List.getElem?_eq_getElem hie];rfl
    exact ⟨cs,fun _=>⟨hcl,⟨(elems[i]'hie).2,by rw [hg];exact ht,by rw [hg];exact hla _ (List.mem_map.2 ⟨elems[i]'hie,List.getElem_mem _,rfl⟩)⟩,hat⟩⟩
   ·exact ⟨[],fun h=>absurd h hil⟩
  obtain ⟨C,hC⟩:=Classical.axiomOfChoice hch
  have hsp:0 < len→a=⟨a.block,a.off,none⟩:=fun h0=>by
   exact zz76
  have hlen':∀ cs ∈ (List.range len).map C,cs.length=sz:=fun cs hcs=>by
   simp at hcs
   obtain ⟨i,hil,rfl⟩:=hcs
   exact (hC i hil).1
  have hm1:((List.range len).map (fun i=>(C i,(ds[i]?).getD (.nil:DataW H)))).map (·.1)=(List.range len).map C:=by rw [List.map_map];rfl
  have hm2:((List.range len).map (fun i=>(C i,(ds[i]?).getD (.nil:DataW H)))).map (·.2)=ds:=by
   rw [List.map_map,← hdl]
   exact map_getD _ ds
  refine ⟨some a,a.block,a.off,len,cap,(List.range len).map (fun i=>(C i,(ds[i]?).getD .nil)),hcs,fun h=>by rw [← hsp h],by simp,fun h0=>?_,fun r hr=>?_,?_,?_⟩
  ·rw [hm1]
   have hfl:=flatten_len _ hlen'
   exact zz37
  ·obtain ⟨i,hi,rfl⟩:=List.mem_map.1 hr
   obtain ⟨h1,⟨ps',h2,h3⟩,-⟩:=hC i (by simpa using hi)
   exact ⟨h1,n,ps',by omega,h2,h3⟩
  ·refine Nat.le_trans (Nat.mul_le_mul_right _ ?_) hw1
   omega
  ·rw [hm2,hds,Rows.uptoBulk]
   omega
theorem fields_of3 {fs:Array Field} {t:TypeId} {fuel:Nat} {cs:List Value} {d:DataW H} {ps:List MemPlace} (hu:P.underlying t=some (.struct fs)) (h:DataW.trod enc P w base (fun _=>true) held fuel t cs=some (d,ps)) (hw:light P t d) :
 ∃ n xs,fuel=n+1∧cs.length=P.cellsOf t∧d=.agg xs∧xs.length=fs.size∧∀ (i:Nat) (f:Field),fs[i]?=some f→∃ d' ps',xs[i]?=some d'∧DataW.trod enc P w base (fun _=>true) held n f.type ((cs.drop f.offset).take (P.cellsOf f.type))=some (d',ps')∧light P f.type d':=by
 obtain ⟨xs,n,hfu,hx,hl,hxl,hf⟩:=DataW.trod_struct hu h
 obtain ⟨hd,-⟩:=Prod.mk.inj hx
 subst hd
 unfold light at hw
 rw [DataW.weights] at hw
 simp only [hu] at hw
 refine ⟨n,xs.map (·.1),hfu,hl,rfl,by rw [List.length_map,hxl],fun i f hif=>?_⟩
 have hlt:i < xs.length:=by
  rw [hxl]
  exact (Array.getElem?_eq_some_iff.1 hif).1
 have h1:=hf i f hif
 rw [List.getElem?_eq_getElem hlt] at h1
 refine ⟨xs[i].1,xs[i].2,by rw [List.getElem?_map,List.getElem?_eq_getElem hlt];rfl,h1,light_each hw i f.type xs[i].1 ?_ ?_⟩
 ·rw [List.getElem?_map,Array.getElem?_toList,hif];rfl
 ·rw [List.getElem?_map,List.getElem?_eq_getElem hlt];rfl
end
section
variable {H:Type} {enc:TypeId × Value→H} {w:World} {base:Nat} {held:Bool}
def ExOkS (w:World) (cs:List Value) (s:Nat):Prop:=∃ (op n:Int) (name:Str) (A:Option Addr) (cap:Nat) (F:EF),cs=(ecells op n name A F.len cap).toList∧i64ok op∧i64ok n∧name.size≤maxLen∧ESl w w.heap.size A F.len F∧F.size+1≤s
theorem efs_ofS:∀ (rs:List (List Value × DataW H)) (_:∀ r ∈ rs,ExOkS w r.1 (Rows.uptoBulk r.2)) (b off:Nat) (_:0 < rs.length→Row w b off (rs.map (·.1)).flatten),∃ F:EF,F.len=rs.length∧EFAt w w.heap.size F b off∧F.size≤Rows.uptoBulkAll (rs.map (·.2))
 | [],_,_,_,_=>⟨.nil,rfl,trivial,Nat.zero_le _⟩
 | (cs,d) :: r,h,b,off,hr=>by
  have hrow:=hr zb86
  rw [List.map_cons,List.flatten_cons] at hrow
  obtain ⟨op,n,name,A,cap,K,e,h1,h2,h3,h4,h5⟩:=h (cs,d) zb86
  obtain rfl:cs=(ecells op n name A K.len cap).toList:=e
  obtain ⟨-,hf,b',off',hA,hE⟩:=h4
  obtain ⟨R,hR1,hR2,hR3⟩:=efs_ofS r (fun x hx=>h x (by simp [hx])) b (off+4) (fun _=>hrow.tail)
  obtain ⟨hh,hg⟩:=hrow.head
  refine ⟨.cons op n name K R,by simp [EF.len,hR1],⟨hrow.lt,h1,h2,h3,⟨A,cap,b',off',hh,hg,hf,hA,hE⟩,hR2⟩,?_⟩
  rw [List.map_cons,Rows.uptoBulkAll,EF.size]
  have h5:K.size+1≤Rows.uptoBulk d:=h5
  show 1+K.size+R.size≤Rows.uptoBulk d+_
  omega
set_option maxRecDepth 100000 in
theorem exprs_ofS:∀ (fuel:Nat) (v:Value) (d:DataW H) (ps:List MemPlace),Trd w base held enc fuel 82 [v] d ps→∃ A n cap F,v=.slice A n cap∧ESl w w.heap.size A n F∧F.size≤Rows.uptoBulk d:=by
 intro fuel
 induction fuel using Nat.strongRecOn with
 | ind fuel IH =>
  intro v d ps ⟨h,hw⟩
  obtain ⟨A,b,off,len,cap,rs,rfl,hA,hl,hr,hc,hb,hbk⟩:=open_rows3 Tryz.underlying82 cellsE zb85 h hw
  have hok:∀ r ∈ rs,ExOkS w r.1 (Rows.uptoBulk r.2):=fun r hrs=>by
   obtain ⟨hcl,n,ps',hlt,ht,hw'⟩:=hc r hrs
   obtain ⟨cs,dd⟩:=r
   obtain ⟨m,xs,rfl,_,hdx,hxl,hf⟩:=fields_of3 Tryz.underlying84 ht hw'
   obtain ⟨d0,p0,g0,k0,l0⟩:=hf 0 _ rfl
   have k0:DataW.trod enc Tryz.prog w base (fun _=>true) held m 3 ((cs.drop 0).take (Tryz.prog.cellsOf 3))=some (d0,p0):=k0
   rw [cellsInt] at k0
   refine zy105 ?_;intro d1 p1 g1 l1 k1
   obtain ⟨d2,p2,g2,k2,l2⟩:=hf 2 _ rfl
   have k2:DataW.trod enc Tryz.prog w base (fun _=>true) held m 9 ((cs.drop 2).take (Tryz.prog.cellsOf 9))=some (d2,p2):=k2
   rw [cellsStr] at k2
   obtain ⟨d3,p3,g3,k3,l3⟩:=hf 3 _ rfl
   have k3:DataW.trod enc Tryz.prog w base (fun _=>true) held m 82 ((cs.drop 3).take (Tryz.prog.cellsOf 82))=some (d3,p3):=k3
   rw [cellsSlE] at k3
   have l3:light Tryz.prog 82 d3:=l3
   obtain ⟨n0,e0,_,w0⟩:=DataW.trod_int Tryz.underlying3 k0
   obtain ⟨n1,e1,_,w1⟩:=DataW.trod_int Tryz.underlying3 k1
   obtain ⟨s2,e2,_,w2⟩:=DataW.trod_string Tryz.underlying9 k2
   have hxl:xs.length=4:=hxl
   match cs,hcl,xs,hxl with
   | [c0,c1,c2,c3],_,[x0,x1,x2,x3],_ =>
    simp at e0 e1 e2 k3 g3
    subst e0 e1 e2 g3
    obtain ⟨A',n',cap',F,rfl,hE,hS⟩:=IH m zb85 c3 x3 p3 ⟨k3,l3⟩
    have hn:=hE.1
    subst hn
    refine ⟨n0,n1,s2,A',cap',F,rfl,oi64_of w0,oi64_of w1,w2,hE,?_⟩
    show F.size+1≤Rows.uptoBulk dd
    rw [show dd=.agg [x0,x1,x2,x3] from hdx]
    simp only [Rows.uptoBulk,Rows.uptoBulkAll]
    omega
  obtain ⟨F,hF1,hF2,hF3⟩:=efs_ofS rs hok b off (fun h0=>hr zb85)
  rw [bytesE] at hb
  exact ⟨A,len,cap,F,rfl,⟨by omega,by unfold Fits;unfold reachBytes at hb;omega,b,off,hA,hF2⟩,Nat.le_trans hF3 hbk⟩
def StOkS (w:World) (cs:List Value) (s:Nat):Prop:=∃ (kind:Int) (name:Str) (e:EF) (low high:Int) (l x:SF) (eA:Option Addr) (ec:Nat) (lA:Option Addr) (lc:Nat) (xA:Option Addr) (xc:Nat),cs=(scells kind name eA e.len ec low high lA l.len lc xA x.len xc).toList∧i64ok kind∧i64ok low∧i64ok high∧name.size≤maxLen∧ESl w w.heap.size eA e.len e∧SSl w w.heap.size lA l.len l∧SSl w w.heap.size xA x.len x∧e.size+l.size+x.size+1≤s
theorem sfs_ofS:∀ (rs:List (List Value × DataW H)) (_:∀ r ∈ rs,StOkS w r.1 (Rows.uptoBulk r.2)) (b off:Nat) (_:0 < rs.length→Row w b off (rs.map (·.1)).flatten),∃ F:SF,F.len=rs.length∧SFAt w w.heap.size F b off∧F.size≤Rows.uptoBulkAll (rs.map (·.2))
 | [],_,_,_,_=>⟨.nil,rfl,trivial,Nat.zero_le _⟩
 | (cs,d) :: r,h,b,off,hr=>by
  have hrow:=hr zb86
  rw [List.map_cons,List.flatten_cons] at hrow
  obtain ⟨kind,name,e,low,high,l,x,eA,ec,lA,lc,xA,xc,q,h1,h2,h3,h4,h5,h6,h7,h8⟩:=h (cs,d) zb86
  obtain rfl:cs=(scells kind name eA e.len ec low high lA l.len lc xA x.len xc).toList:=q
  obtain ⟨-,f1,be,oe,a1,e1⟩:=h5
  obtain ⟨-,f2,bl,ol,a2,e2⟩:=h6
  obtain ⟨-,f3,bx,ox,a3,e3⟩:=h7
  obtain ⟨R,hR1,hR2,hR3⟩:=sfs_ofS r (fun y hy=>h y (by simp [hy])) b (off+7) (fun _=>hrow.tail)
  obtain ⟨hh,hg⟩:=hrow.head
  refine ⟨.cons kind name e low high l x R,by simp [SF.len,hR1],⟨hrow.lt,h1,h2,h3,h4,⟨eA,ec,lA,lc,xA,xc,be,oe,bl,ol,bx,ox,hh,hg,f1,f2,f3,a1,a2,a3,e1,e2,e3⟩,hR2⟩,?_⟩
  rw [List.map_cons,Rows.uptoBulkAll,SF.size]
  have h8:e.size+l.size+x.size+1≤Rows.uptoBulk d:=h8
  show 1+e.size+l.size+x.size+R.size≤Rows.uptoBulk d+_
  omega
set_option maxRecDepth 100000 in
theorem stmts_ofS:∀ (fuel:Nat) (v:Value) (d:DataW H) (ps:List MemPlace),Trd w base held enc fuel 24 [v] d ps→∃ A n cap F,v=.slice A n cap∧SSl w w.heap.size A n F∧F.size≤Rows.uptoBulk d:=by
 intro fuel
 induction fuel using Nat.strongRecOn with
 | ind fuel IH =>
  intro v d ps ⟨h,hw⟩
  obtain ⟨A,b,off,len,cap,rs,rfl,hA,hl,hr,hc,hb,hbk⟩:=open_rows3 Tryz.underlying24 cellsS zb85 h hw
  have hok:∀ r ∈ rs,StOkS w r.1 (Rows.uptoBulk r.2):=fun r hrs=>by
   obtain ⟨hcl,n,ps',hlt,ht,hw'⟩:=hc r hrs
   obtain ⟨cs,dd⟩:=r
   obtain ⟨m,xs,rfl,_,hdx,hxl,hf⟩:=fields_of3 Tryz.underlying86 ht hw'
   obtain ⟨d0,p0,g0,k0,l0⟩:=hf 0 _ rfl
   have k0:DataW.trod enc Tryz.prog w base (fun _=>true) held m 3 ((cs.drop 0).take (Tryz.prog.cellsOf 3))=some (d0,p0):=k0
   rw [cellsInt] at k0
   obtain ⟨d1,p1,g1,k1,l1⟩:=hf 1 _ rfl
   have k1:DataW.trod enc Tryz.prog w base (fun _=>true) held m 9 ((cs.drop 1).take (Tryz.prog.cellsOf 9))=some (d1,p1):=k1
   rw [cellsStr] at k1
   obtain ⟨d2,p2,g2,k2,l2⟩:=hf 2 _ rfl
   have k2:DataW.trod enc Tryz.prog w base (fun _=>true) held m 82 ((cs.drop 2).take (Tryz.prog.cellsOf 82))=some (d2,p2):=k2
   rw [cellsSlE] at k2
   have l2:light Tryz.prog 82 d2:=l2
   obtain ⟨d3,p3,g3,k3,l3⟩:=hf 3 _ rfl
   have k3:DataW.trod enc Tryz.prog w base (fun _=>true) held m 3 ((cs.drop 3).take (Tryz.prog.cellsOf 3))=some (d3,p3):=k3
   rw [cellsInt] at k3
   obtain ⟨d4,p4,g4,k4,l4⟩:=hf 4 _ rfl
   have k4:DataW.trod enc Tryz.prog w base (fun _=>true) held m 3 ((cs.drop 4).take (Tryz.prog.cellsOf 3))=some (d4,p4):=k4
   rw [cellsInt] at k4
   obtain ⟨d5,p5,g5,k5,l5⟩:=hf 5 _ rfl
   have k5:DataW.trod enc Tryz.prog w base (fun _=>true) held m 24 ((cs.drop 5).take (Tryz.prog.cellsOf 24))=some (d5,p5):=k5
   rw [cellsSlS] at k5
   have l5:light Tryz.prog 24 d5:=l5
   obtain ⟨d6,p6,g6,k6,l6⟩:=hf 6 _ rfl
   have k6:DataW.trod enc Tryz.prog w base (fun _=>true) held m 24 ((cs.drop 6).take (Tryz.prog.cellsOf 24))=some (d6,p6):=k6
   rw [cellsSlS] at k6
   have l6:light Tryz.prog 24 d6:=l6
   obtain ⟨n0,e0,_,w0⟩:=DataW.trod_int Tryz.underlying3 k0
   obtain ⟨s1,e1,_,w1⟩:=DataW.trod_string Tryz.underlying9 k1
   obtain ⟨n3,e3,_,w3⟩:=DataW.trod_int Tryz.underlying3 k3
   obtain ⟨n4,e4,_,w4⟩:=DataW.trod_int Tryz.underlying3 k4
   have hxl:xs.length=7:=hxl
   match cs,hcl,xs,hxl with
   | [c0,c1,c2,c3,c4,c5,c6],_,[x0,x1,x2,x3,x4,x5,x6],_ =>
    simp at e0 e1 e3 e4 k2 k5 k6 g2 g5 g6
    subst e0 e1 e3 e4 g2 g5 g6
    obtain ⟨eA,en,ec,e,rfl,hE,z1⟩:=exprs_ofS _ c2 x2 p2 ⟨k2,l2⟩
    obtain ⟨lA,ln,lc,l,rfl,hL,z2⟩:=IH m zb85 c5 x5 p5 ⟨k5,l5⟩
    obtain ⟨xA,xn,xc,x,rfl,hX,z3⟩:=IH m zb85 c6 x6 p6 ⟨k6,l6⟩
    have q1:=hE.1
    have q2:=hL.1
    have q3:=hX.1
    subst q1 q2 q3
    refine ⟨n0,s1,e,n3,n4,l,x,eA,ec,lA,lc,xA,xc,rfl,oi64_of w0,oi64_of w3,oi64_of w4,w1,hE,hL,hX,?_⟩
    show e.size+l.size+x.size+1≤Rows.uptoBulk dd
    rw [show dd=.agg [x0,x1,x2,x3,x4,x5,x6] from hdx]
    simp only [Rows.uptoBulk,Rows.uptoBulkAll]
    omega
  obtain ⟨F,hF1,hF2,hF3⟩:=sfs_ofS rs hok b off (fun h0=>hr zb85)
  rw [bytesS] at hb
  exact ⟨A,len,cap,F,rfl,⟨by omega,by unfold Fits;unfold reachBytes at hb;omega,b,off,hA,hF2⟩,Nat.le_trans hF3 hbk⟩
theorem vrs_flatS:∀ (rs:List (List Value × DataW H)),(∀ r ∈ rs,(∃ v:Vr,VrOk v∧r.1=(vcells v).toList)∧1≤Rows.uptoBulk r.2)→∃ l:List Vr,l.length=rs.length∧(∀ v ∈ l,VrOk v)∧(rs.map (·.1)).flatten=rowsL vcells l∧l.length≤Rows.uptoBulkAll (rs.map (·.2))
 | [],_=>⟨[],rfl,by simp,rfl,Nat.zero_le _⟩
 | (c,d) :: r,h=>by
  obtain ⟨⟨i,hi,e⟩,h1⟩:=h (c,d) zb86
  obtain rfl:c=(vcells i).toList:=e
  obtain ⟨l,hl,ho,he,hs⟩:=vrs_flatS r (fun cs hcs=>h cs (by simp [hcs]))
  refine ⟨i :: l,by simp [hl],by simp;exact ⟨hi,ho⟩,by rw [List.map_cons,List.flatten_cons,he];rfl,?_⟩
  rw [List.map_cons,Rows.uptoBulkAll,List.length_cons]
  have h1:1≤Rows.uptoBulk d:=h1
  show _≤Rows.uptoBulk d+_
  omega
set_option maxRecDepth 100000 in
theorem vrs_ofS {fuel:Nat} {v:Value} {d:DataW H} {ps:List MemPlace} (hh:Trd w base held enc fuel 23 [v] d ps):∃ A n cap l,v=.slice A n cap∧VSl w w.heap.size A n l∧l.length≤Rows.uptoBulk d:=by
 obtain ⟨h,hw⟩:=hh
 obtain ⟨A,b,off,len,cap,rs,rfl,hA,hl,hr,hc,hb,hbk⟩:=open_rows3 Tryz.underlying23 cellsVr zb85 h hw
 obtain ⟨l,hll,ho,he,hs⟩:=vrs_flatS rs (fun r hrs=>by
  obtain ⟨hcl,n,ps',hlt,ht,hw'⟩:=hc r hrs
  obtain ⟨cs,dd⟩:=r
  obtain ⟨m,xs,rfl,_,hdx,hxl,hf⟩:=fields_of3 Tryz.underlying66 ht hw'
  obtain ⟨d0,p0,g0,k0,l0⟩:=hf 0 _ rfl
  have k0:DataW.trod enc Tryz.prog w base (fun _=>true) held m 9 ((cs.drop 0).take (Tryz.prog.cellsOf 9))=some (d0,p0):=k0
  rw [cellsStr] at k0
  refine zy105 ?_;intro d1 p1 g1 l1 k1
  obtain ⟨d2,p2,g2,k2,l2⟩:=hf 2 _ rfl
  have k2:DataW.trod enc Tryz.prog w base (fun _=>true) held m 3 ((cs.drop 2).take (Tryz.prog.cellsOf 3))=some (d2,p2):=k2
  rw [cellsInt] at k2
  obtain ⟨d3,p3,g3,k3,l3⟩:=hf 3 _ rfl
  have k3:DataW.trod enc Tryz.prog w base (fun _=>true) held m 3 ((cs.drop 3).take (Tryz.prog.cellsOf 3))=some (d3,p3):=k3
  rw [cellsInt] at k3
  obtain ⟨s0,e0,_,w0⟩:=DataW.trod_string Tryz.underlying9 k0
  obtain ⟨n1,e1,_,w1⟩:=DataW.trod_int Tryz.underlying3 k1
  obtain ⟨n2,e2,_,w2⟩:=DataW.trod_int Tryz.underlying3 k2
  obtain ⟨n3,e3,_,w3⟩:=DataW.trod_int Tryz.underlying3 k3
  match cs,hcl with
  | [c0,c1,c2,c3],_ =>
   simp at e0 e1 e2 e3
   subst e0 e1 e2 e3
   refine ⟨⟨⟨s0,n1,n2,n3⟩,⟨w0,oi64_of w1,oi64_of w2,oi64_of w3⟩,rfl⟩,?_⟩
   show 1≤Rows.uptoBulk dd
   rw [show dd=.agg xs from hdx,Rows.uptoBulk]
   omega)
 rw [bytesV] at hb
 exact ⟨A,len,cap,l,rfl,⟨by omega,by unfold Fits;unfold reachBytes at hb;omega,ho,b,off,hA,fun h0=>⟨(hr h0).lt,he ▸ hr h0⟩⟩,Nat.le_trans hs hbk⟩
set_option maxRecDepth 100000 in
theorem prog_ofS {fuel:Nat} {cs:List Value} {d:DataW H} {ps:List MemPlace} (hh:Trd w base held enc fuel 26 cs d ps):∃ (c:Pc) (p:Pr),cs=c.cells.toList∧PAt w w.heap.size c p∧psize p≤Rows.uptoBulk d:=by
 obtain ⟨h,hw⟩:=hh
 obtain ⟨m,xs,rfl,hcl,hdx,hxl,hf⟩:=fields_of3 Tryz.underlying26 h hw
 rw [cellsP] at hcl
 obtain ⟨d0,p0,g0,k0,l0⟩:=hf 0 _ rfl
 have k0:DataW.trod enc Tryz.prog w base (fun _=>true) held m 9 ((cs.drop 0).take (Tryz.prog.cellsOf 9))=some (d0,p0):=k0
 rw [cellsStr] at k0
 refine zy105 ?_;intro d1 p1 g1 l1 k1
 obtain ⟨d2,p2,g2,k2,l2⟩:=hf 2 _ rfl
 have k2:DataW.trod enc Tryz.prog w base (fun _=>true) held m 22 ((cs.drop 2).take (Tryz.prog.cellsOf 22))=some (d2,p2):=k2
 rw [cellsSlI] at k2
 have l2:light Tryz.prog 22 d2:=l2
 obtain ⟨d3,p3,g3,k3,l3⟩:=hf 3 _ rfl
 have k3:DataW.trod enc Tryz.prog w base (fun _=>true) held m 23 ((cs.drop 3).take (Tryz.prog.cellsOf 23))=some (d3,p3):=k3
 rw [cellsSlV] at k3
 have l3:light Tryz.prog 23 d3:=l3
 obtain ⟨d4,p4,g4,k4,l4⟩:=hf 4 _ rfl
 have k4:DataW.trod enc Tryz.prog w base (fun _=>true) held m 24 ((cs.drop 4).take (Tryz.prog.cellsOf 24))=some (d4,p4):=k4
 rw [cellsSlS] at k4
 have l4:light Tryz.prog 24 d4:=l4
 obtain ⟨d5,p5,g5,k5,l5⟩:=hf 5 _ rfl
 have k5:DataW.trod enc Tryz.prog w base (fun _=>true) held m 24 ((cs.drop 5).take (Tryz.prog.cellsOf 24))=some (d5,p5):=k5
 rw [cellsSlS] at k5
 have l5:light Tryz.prog 24 d5:=l5
 obtain ⟨d6,p6,g6,k6,l6⟩:=hf 6 _ rfl
 have k6:DataW.trod enc Tryz.prog w base (fun _=>true) held m 23 ((cs.drop 6).take (Tryz.prog.cellsOf 23))=some (d6,p6):=k6
 rw [cellsSlV] at k6
 have l6:light Tryz.prog 23 d6:=l6
 obtain ⟨d7,p7,g7,k7,l7⟩:=hf 7 _ rfl
 have k7:DataW.trod enc Tryz.prog w base (fun _=>true) held m 24 ((cs.drop 7).take (Tryz.prog.cellsOf 24))=some (d7,p7):=k7
 rw [cellsSlS] at k7
 have l7:light Tryz.prog 24 d7:=l7
 obtain ⟨d8,p8,g8,k8,l8⟩:=hf 8 _ rfl
 have k8:DataW.trod enc Tryz.prog w base (fun _=>true) held m 9 ((cs.drop 8).take (Tryz.prog.cellsOf 9))=some (d8,p8):=k8
 rw [cellsStr] at k8
 obtain ⟨d9,p9,g9,k9,l9⟩:=hf 9 _ rfl
 have k9:DataW.trod enc Tryz.prog w base (fun _=>true) held m 24 ((cs.drop 9).take (Tryz.prog.cellsOf 24))=some (d9,p9):=k9
 rw [cellsSlS] at k9
 have l9:light Tryz.prog 24 d9:=l9
 obtain ⟨d10,p10,g10,k10,l10⟩:=hf 10 _ rfl
 have k10:DataW.trod enc Tryz.prog w base (fun _=>true) held m 24 ((cs.drop 10).take (Tryz.prog.cellsOf 24))=some (d10,p10):=k10
 rw [cellsSlS] at k10
 have l10:light Tryz.prog 24 d10:=l10
 obtain ⟨s0,e0,_,w0⟩:=DataW.trod_string Tryz.underlying9 k0
 obtain ⟨n1,e1,_,w1⟩:=DataW.trod_int Tryz.underlying3 k1
 obtain ⟨s8,e8,_,w8⟩:=DataW.trod_string Tryz.underlying9 k8
 have hxl:xs.length=11:=hxl
 match cs,hcl,xs,hxl with
 | [c0,c1,c2,c3,c4,c5,c6,c7,c8,c9,c10],_,[x0,x1,x2,x3,x4,x5,x6,x7,x8,x9,x10],_ =>
  simp at e0 e1 e8 k2 k3 k4 k5 k6 k7 k9 k10 g2 g3 g4 g5 g6 g7 g9 g10
  subst e0 e1 e8 g2 g3 g4 g5 g6 g7 g9 g10
  obtain ⟨A2,q2,r2,y2,rfl,h2⟩:=ints_of ⟨k2,l2⟩
  obtain ⟨A3,q3,r3,y3,rfl,h3,z3⟩:=vrs_ofS ⟨k3,l3⟩
  obtain ⟨A4,q4,r4,y4,rfl,h4,z4⟩:=stmts_ofS _ c4 x4 p4 ⟨k4,l4⟩
  obtain ⟨A5,q5,r5,y5,rfl,h5,z5⟩:=stmts_ofS _ c5 x5 p5 ⟨k5,l5⟩
  obtain ⟨A6,q6,r6,y6,rfl,h6,z6⟩:=vrs_ofS ⟨k6,l6⟩
  obtain ⟨A7,q7,r7,y7,rfl,h7,z7⟩:=stmts_ofS _ c7 x7 p7 ⟨k7,l7⟩
  obtain ⟨A9,q9,r9,y9,rfl,h9,z9⟩:=stmts_ofS _ c9 x9 p9 ⟨k9,l9⟩
  obtain ⟨A10,q10,r10,y10,rfl,h10,z10⟩:=stmts_ofS _ c10 x10 p10 ⟨k10,l10⟩
  refine ⟨⟨s0,n1,⟨A2,q2,r2⟩,⟨A3,q3,r3⟩,⟨A4,q4,r4⟩,⟨A5,q5,r5⟩,⟨A6,q6,r6⟩,⟨A7,q7,r7⟩,s8,⟨A9,q9,r9⟩,⟨A10,q10,r10⟩⟩,⟨s0,n1,y2,y3,y4,y5,y6,y7,s8,y9,y10⟩,rfl,
   ⟨rfl,w0,rfl,oi64_of w1,h2,h3,h4,h5,h6,h7,rfl,w8,h9,h10⟩,?_⟩
  rw [hdx]
  simp only [Rows.uptoBulk,Rows.uptoBulkAll,psize]
  omega
end
set_option maxRecDepth 100000 in
theorem prog_in3 {H:Type} {enc:TypeId × Value→H} {W:World} {base:Nat} {v:Value} {d:DataW H} {p:List MemPlace} (o:Value.okWide Tryz.prog W .any base 26 v) (h:DataW.Trod enc Tryz.prog W 0 (fun _=>true) true 26 v d p) (z:light Tryz.prog 26 d) :
 ∃ (c:Pc) (q:Pr),v=.agg c.cells∧PAt W W.heap.size c q∧Caps c∧psize q≤Rows.uptoBulk d:=by
 obtain ⟨cs,rfl⟩:∃ cs,v=.agg cs:=by
  simp only [Value.okWide,Tryz.underlying26] at o
  obtain ⟨cs,h1,_⟩:=o
  exact ⟨cs,h1⟩
 obtain ⟨fuel,hf⟩:=h
 obtain ⟨c,q,e,hp,hs⟩:=prog_ofS ⟨hf,z⟩
 have hf2:DataW.trod enc Tryz.prog W 0 (fun _=>true) true fuel 26 c.cells.toList=some (d,p):=e ▸ hf
 obtain ⟨hc,hr⟩:=caps_of ⟨hf2,z⟩
 refine ⟨c,q,?_,hp,hc,hs⟩
 cases cs
 simpa [Value.cells] using e
end Go.Proofs.YtbfbabbcdochjaaGreatDoor
