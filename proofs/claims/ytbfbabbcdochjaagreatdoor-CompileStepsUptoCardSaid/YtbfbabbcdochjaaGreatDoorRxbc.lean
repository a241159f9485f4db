/- Several texts joined: Dm. -/
import Derived.Test.YtbfbabbcdochjaaGreatDoorRxpk
import Derived.Test.YtbfbabbcdochjaaGreatDoorRxbb
set_option maxHeartbeats 4000000
namespace Go.Proofs.YtbfbabbcdochjaaGreatDoor
open Go.RowKit So Mc
structure StX (x:Mst) (w:World) (part f:Nat) (κ:Kn) (kind low high:Int) (s:Str) (A:Option Addr) (F:EF) (lA:Option Addr) (l:SF) (xA:Option Addr) (els:SF):Prop where
 sx:Sx w x.N κ kind s A F low high
 hl:SSl w x.N lA l.len l
 hx:SSl w x.N xA els.len els
 il:BkM x part l
 ix:BkM x part els
 c2:kind=2→chkB part κ f false l=none∧chkB part κ f false els=none
 c3:kind=3→κ s=0∧(-2147483648≤low∧low≤2147483647)∧(-2147483648≤high∧high≤2147483647)∧f < 8∧chkB part (upd κ s 3) (f+1) false l=none
 zl:l.size≤1099511627776
 zx:els.size≤1099511627776
theorem StX.kt {x:Mst} {w w':World} {part f:Nat} {κ:Kn} {kind low high:Int} {s:Str} {A:Option Addr} {F:EF} {lA:Option Addr} {l:SF} {xA:Option Addr} {els:SF} {B wm:Nat} (h:StX x w part f κ kind low high s A F lA l xA els) (hk:KT B wm w w') (hN:x.N≤B) (hB:B≤w.heap.size):StX x w' part f κ kind low high s A F lA l xA els :=
 ⟨h.sx.kt hk hN hB,h.hl.kt hk hN hB,h.hx.kt hk hN hB,h.il,h.ix,h.c2,h.c3,h.zl,h.zx⟩
theorem stx_of {x:Mst} {w:World} {part f:Nat} {κ:Kn} {last:Bool} {kind low high:Int} {s:Str} {F:EF} {l els:SF} {A lA xA:Option Addr} {be oe bl ol bx ox:Nat} (hc:chkS part κ f last kind s F low high l els=none) (hz:1+F.size+l.size+els.size≤1099511627776)
 (i2:i64ok low) (i3:i64ok high) (i4:s.size≤maxLen) (n1:Fits F.len 56) (n2:Fits l.len 112) (n3:Fits els.len 112) (a1:0 < F.len→A=some ⟨be,oe,none⟩) (a2:0 < l.len→lA=some ⟨bl,ol,none⟩) (a3:0 < els.len→xA=some ⟨bx,ox,none⟩) (he:EFAt w x.N F be oe) (hl:SFAt w x.N l bl ol) (hx:SFAt w x.N els bx ox)
 (il:BkM x part l) (ix:BkM x part els):(0≤kind∧kind≤9)∧StX x w part f κ kind low high s A F lA l xA els:=by
 unfold chkS at hc
 rw [ored_eq_none,ored_eq_none,ored_eq_none,ored_eq_none,must_none,Bool.and_eq_true] at hc
 obtain ⟨⟨q1,q2⟩,-,q3,q4,q5⟩:=hc
 have e:=chkD_E q4 zb85
 refine ⟨by simpa [btw] using q1,⟨⟨i2,i3,i4,⟨rfl,n1,be,oe,a1,he⟩,by simpa using q2,e.1,e.2⟩,⟨rfl,n2,bl,ol,a2,hl⟩,⟨rfl,n3,bx,ox,a3,hx⟩,il,ix,fun h=>?_,fun h=>?_,by omega,by omega⟩⟩
 ·rw [if_pos h,ored_eq_none] at q5
  exact q5
 ·subst h
  rw [if_neg zb84,if_pos rfl] at q5
  unfold named at q3
  rw [if_neg zb84,if_pos rfl] at q3
  unfold loop at q3
  rw [ored_eq_none,ored_eq_none,ored_eq_none,must_none,must_none,must_none,must_none] at q3
  obtain ⟨-,r1,r2,r3⟩:=q3
  simp only [word,Bool.and_eq_true,decide_eq_true_eq] at r2 r3
  exact ⟨by simpa using r1,r2.1.1,r2.1.2,r3,q5⟩
theorem look_stmt {w:World} {g:Nat} (h:IMap w g stmtF) (op:Int) {fv:Value} (hf:(stmtF op).getD .nilFunc=fv):(Instr.lookup 155 (.map (some g)) (.int .i64 op) false).run Tryz.prog w=.ok fv w:=by
 have hlk:=IMap.look (P:=Tryz.prog) h Tryz.underlying155 Tryz.underlying3 (z:=.nilFunc) (fun w=>by kernel_rfl) op
 rw [hlk,hf]
theorem call_0 (x:Mst) (part f:Nat) (W:Wd) (hM:Mok x W) (κ:Kn) (_hWz:∀ s,κ s=0→W s=0) (_f8:f≤8) (low high:Int) (s:Str) (A:Option Addr) (ec:Nat) (F:EF) (lA:Option Addr) (lc:Nat) (l:SF) (xA:Option Addr) (xc:Nat) (els:SF) (L:List Ins) (w:World) (h:x.at w f W L) (hX:StX x w part f κ 0 low high s A F lA l xA els) (hL:L.length+(cS x.k W f L.length 0 s F low high l els).length≤4000) :
 Calls Tryz.prog 128 #[.pointer (some ⟨x.mb,0,none⟩),.agg (scells 0 s A F.len ec low high lA l.len lc xA els.len xc)] w fun e w'=>e=.returned (.tuple #[])∧x.at w' f W (L ++ cS x.k W f L.length 0 s F low high l els)∧KT x.B x.wm w w':=by
 have e:cS x.k W f L.length 0 s F low high l els=cS0 x.k W L.length 0 s F low:=by unfold cS;rw [if_neg zb84,if_neg zb84]
 rw [e] at hL ⊢
 exact assign_any x f W hM κ low high s A ec F lA l.len lc xA els.len xc L w h hX.sx hL
theorem call_1 (x:Mst) (part f:Nat) (W:Wd) (hM:Mok x W) (κ:Kn) (_hWz:∀ s,κ s=0→W s=0) (_f8:f≤8) (low high:Int) (s:Str) (A:Option Addr) (ec:Nat) (F:EF) (lA:Option Addr) (lc:Nat) (l:SF) (xA:Option Addr) (xc:Nat) (els:SF) (L:List Ins) (w:World) (h:x.at w f W L) (hX:StX x w part f κ 1 low high s A F lA l xA els) (hL:L.length+(cS x.k W f L.length 1 s F low high l els).length≤4000) :
 Calls Tryz.prog 129 #[.pointer (some ⟨x.mb,0,none⟩),.agg (scells 1 s A F.len ec low high lA l.len lc xA els.len xc)] w fun e w'=>e=.returned (.tuple #[])∧x.at w' f W (L ++ cS x.k W f L.length 1 s F low high l els)∧KT x.B x.wm w w':=by
 have e:cS x.k W f L.length 1 s F low high l els=cS0 x.k W L.length 1 s F low:=by unfold cS;rw [if_neg zb84,if_neg zb84]
 rw [e] at hL ⊢
 exact store_any x f W hM κ low high s A ec F lA l.len lc xA els.len xc L w h hX.sx hL
theorem call_2 (x:Mst) (part f:Nat) (W:Wd) (hM:Mok x W) (κ:Kn) (hWz:∀ s,κ s=0→W s=0) (f8:f≤8) (low high:Int) (s:Str) (A:Option Addr) (ec:Nat) (F:EF) (lA:Option Addr) (lc:Nat) (l:SF) (xA:Option Addr) (xc:Nat) (els:SF) (L:List Ins) (w:World) (h:x.at w f W L) (hX:StX x w part f κ 2 low high s A F lA l xA els) (hL:L.length+(cS x.k W f L.length 2 s F low high l els).length≤4000) :
 Calls Tryz.prog 130 #[.pointer (some ⟨x.mb,0,none⟩),.agg (scells 2 s A F.len ec low high lA l.len lc xA els.len xc)] w fun e w'=>e=.returned (.tuple #[])∧x.at w' f W (L ++ cS x.k W f L.length 2 s F low high l els)∧KT x.B x.wm w w':=by
 exact choose_any x part f W hM κ hWz f8 low high s A ec F lA lc l xA xc els L w h hX.sx hX.hl hX.hx hX.il hX.ix (hX.c2 rfl).1 (hX.c2 rfl).2 hX.zl hX.zx hL
theorem call_3 (x:Mst) (part f:Nat) (W:Wd) (hM:Mok x W) (κ:Kn) (hWz:∀ s,κ s=0→W s=0) (_f8:f≤8) (low high:Int) (s:Str) (A:Option Addr) (ec:Nat) (F:EF) (lA:Option Addr) (lc:Nat) (l:SF) (xA:Option Addr) (xc:Nat) (els:SF) (L:List Ins) (w:World) (h:x.at w f W L) (hX:StX x w part f κ 3 low high s A F lA l xA els) (hL:L.length+(cS x.k W f L.length 3 s F low high l els).length≤4000) :
 Calls Tryz.prog 131 #[.pointer (some ⟨x.mb,0,none⟩),.agg (scells 3 s A F.len ec low high lA l.len lc xA els.len xc)] w fun e w'=>e=.returned (.tuple #[])∧x.at w' f W (L ++ cS x.k W f L.length 3 s F low high l els)∧KT x.B x.wm w w':=by
 obtain ⟨q1,q2,q3,q4,q5⟩:=hX.c3 rfl
 exact mloop_any x part f W hM κ hWz q4 low high s A F.len ec lA lc l xA els.len xc L w h q1 q2 q3 hX.hl hX.il q5 hX.zl F els hL
theorem call_4 (x:Mst) (part f:Nat) (W:Wd) (hM:Mok x W) (κ:Kn) (_hWz:∀ s,κ s=0→W s=0) (_f8:f≤8) (low high:Int) (s:Str) (A:Option Addr) (ec:Nat) (F:EF) (lA:Option Addr) (lc:Nat) (l:SF) (xA:Option Addr) (xc:Nat) (els:SF) (L:List Ins) (w:World) (h:x.at w f W L) (hX:StX x w part f κ 4 low high s A F lA l xA els) (hL:L.length+(cS x.k W f L.length 4 s F low high l els).length≤4000) :
 Calls Tryz.prog 132 #[.pointer (some ⟨x.mb,0,none⟩),.agg (scells 4 s A F.len ec low high lA l.len lc xA els.len xc)] w fun e w'=>e=.returned (.tuple #[])∧x.at w' f W (L ++ cS x.k W f L.length 4 s F low high l els)∧KT x.B x.wm w w':=by
 have e:cS x.k W f L.length 4 s F low high l els=cS0 x.k W L.length 4 s F low:=by unfold cS;rw [if_neg zb84,if_neg zb84]
 rw [e] at hL ⊢
 exact refuse_any x f W hM κ low high s A ec F lA l.len lc xA els.len xc L w h hX.sx hL
theorem call_5 (x:Mst) (part f:Nat) (W:Wd) (hM:Mok x W) (κ:Kn) (_hWz:∀ s,κ s=0→W s=0) (_f8:f≤8) (low high:Int) (s:Str) (A:Option Addr) (ec:Nat) (F:EF) (lA:Option Addr) (lc:Nat) (l:SF) (xA:Option Addr) (xc:Nat) (els:SF) (L:List Ins) (w:World) (h:x.at w f W L) (hX:StX x w part f κ 5 low high s A F lA l xA els) (hL:L.length+(cS x.k W f L.length 5 s F low high l els).length≤4000) :
 Calls Tryz.prog 133 #[.pointer (some ⟨x.mb,0,none⟩),.agg (scells 5 s A F.len ec low high lA l.len lc xA els.len xc)] w fun e w'=>e=.returned (.tuple #[])∧x.at w' f W (L ++ cS x.k W f L.length 5 s F low high l els)∧KT x.B x.wm w w':=by
 have e:cS x.k W f L.length 5 s F low high l els=cS0 x.k W L.length 5 s F low:=by unfold cS;rw [if_neg zb84,if_neg zb84]
 rw [e] at hL ⊢
 exact roll_any x f W hM κ low high s A ec F lA l.len lc xA els.len xc L w h hX.sx hL
theorem call_6 (x:Mst) (part f:Nat) (W:Wd) (hM:Mok x W) (κ:Kn) (_hWz:∀ s,κ s=0→W s=0) (_f8:f≤8) (low high:Int) (s:Str) (A:Option Addr) (ec:Nat) (F:EF) (lA:Option Addr) (lc:Nat) (l:SF) (xA:Option Addr) (xc:Nat) (els:SF) (L:List Ins) (w:World) (h:x.at w f W L) (hX:StX x w part f κ 6 low high s A F lA l xA els) (hL:L.length+(cS x.k W f L.length 6 s F low high l els).length≤4000) :
 Calls Tryz.prog 134 #[.pointer (some ⟨x.mb,0,none⟩),.agg (scells 6 s A F.len ec low high lA l.len lc xA els.len xc)] w fun e w'=>e=.returned (.tuple #[])∧x.at w' f W (L ++ cS x.k W f L.length 6 s F low high l els)∧KT x.B x.wm w w':=by
 have e:cS x.k W f L.length 6 s F low high l els=cS0 x.k W L.length 6 s F low:=by unfold cS;rw [if_neg zb84,if_neg zb84]
 rw [e] at hL ⊢
 exact seat_any x f W hM κ low high s A ec F lA l.len lc xA els.len xc L w h hX.sx hL
theorem call_7 (x:Mst) (part f:Nat) (W:Wd) (hM:Mok x W) (κ:Kn) (_hWz:∀ s,κ s=0→W s=0) (_f8:f≤8) (low high:Int) (s:Str) (A:Option Addr) (ec:Nat) (F:EF) (lA:Option Addr) (lc:Nat) (l:SF) (xA:Option Addr) (xc:Nat) (els:SF) (L:List Ins) (w:World) (h:x.at w f W L) (hX:StX x w part f κ 7 low high s A F lA l xA els) (hL:L.length+(cS x.k W f L.length 7 s F low high l els).length≤4000) :
 Calls Tryz.prog 135 #[.pointer (some ⟨x.mb,0,none⟩),.agg (scells 7 s A F.len ec low high lA l.len lc xA els.len xc)] w fun e w'=>e=.returned (.tuple #[])∧x.at w' f W (L ++ cS x.k W f L.length 7 s F low high l els)∧KT x.B x.wm w w':=by
 have e:cS x.k W f L.length 7 s F low high l els=cS0 x.k W L.length 7 s F low:=by unfold cS;rw [if_neg zb84,if_neg zb84]
 rw [e] at hL ⊢
 exact over_any x f W hM κ low high s A ec F lA l.len lc xA els.len xc L w h hX.sx hL
theorem call_8 (x:Mst) (part f:Nat) (W:Wd) (hM:Mok x W) (κ:Kn) (_hWz:∀ s,κ s=0→W s=0) (_f8:f≤8) (low high:Int) (s:Str) (A:Option Addr) (ec:Nat) (F:EF) (lA:Option Addr) (lc:Nat) (l:SF) (xA:Option Addr) (xc:Nat) (els:SF) (L:List Ins) (w:World) (h:x.at w f W L) (hX:StX x w part f κ 8 low high s A F lA l xA els) (hL:L.length+(cS x.k W f L.length 8 s F low high l els).length≤4000) :
 Calls Tryz.prog 136 #[.pointer (some ⟨x.mb,0,none⟩),.agg (scells 8 s A F.len ec low high lA l.len lc xA els.len xc)] w fun e w'=>e=.returned (.tuple #[])∧x.at w' f W (L ++ cS x.k W f L.length 8 s F low high l els)∧KT x.B x.wm w w':=by
 have e:cS x.k W f L.length 8 s F low high l els=cS0 x.k W L.length 8 s F low:=by unfold cS;rw [if_neg zb84,if_neg zb84]
 rw [e] at hL ⊢
 exact pay_any x f W hM κ low high s A ec F lA l.len lc xA els.len xc L w h hX.sx hL
theorem call_9 (x:Mst) (part f:Nat) (W:Wd) (hM:Mok x W) (κ:Kn) (_hWz:∀ s,κ s=0→W s=0) (_f8:f≤8) (low high:Int) (s:Str) (A:Option Addr) (ec:Nat) (F:EF) (lA:Option Addr) (lc:Nat) (l:SF) (xA:Option Addr) (xc:Nat) (els:SF) (L:List Ins) (w:World) (h:x.at w f W L) (hX:StX x w part f κ 9 low high s A F lA l xA els) (hL:L.length+(cS x.k W f L.length 9 s F low high l els).length≤4000) :
 Calls Tryz.prog 137 #[.pointer (some ⟨x.mb,0,none⟩),.agg (scells 9 s A F.len ec low high lA l.len lc xA els.len xc)] w fun e w'=>e=.returned (.tuple #[])∧x.at w' f W (L ++ cS x.k W f L.length 9 s F low high l els)∧KT x.B x.wm w w':=by
 have e:cS x.k W f L.length 9 s F low high l els=cS0 x.k W L.length 9 s F low:=by unfold cS;rw [if_neg zb84,if_neg zb84]
 rw [e] at hL ⊢
 exact rest_any x f W hM κ low high s A ec F lA l.len lc xA els.len xc L w h hX.sx hL
set_option maxRecDepth 100000 in
theorem mblock_any (x:Mst) (part:Nat) (F:SF):BkM x part F:=by
 refine sf_ind (C:=BkM x part) ?_ F
 clear F
 intro F IH f W κ top A cap L w hM hWz f8 h hsl hc hz hL
 obtain ⟨-,hf,b,off,hA,hE⟩:=hsl
 have hm:=hf.max zb85
 have HA:=J hA
 have HE:=J hE
 have HI:=J IH
 have HMk:=J hM
 have HWz:=J hWz
 have HH:=J h
 have HC:=J hc
 have HZ:=J hz
 have HL:=J hL
 have HF8:=J f8
 have HNB:=J (And.intro h.hN h.hB)
 obtain ⟨CD,hCD⟩:∃ CD,CD=cB x.k F W f L.length:=⟨_,rfl⟩
 have HCD:=J hCD
 obtain ⟨n,hn⟩:∃ n,n=F.len:=⟨_,rfl⟩
 have HN:=J hn
 rw [← hCD,← hn]
 rw [← hn] at hm
 clear hf hA hE IH hM hWz h hc hz hL f8 hCD hn
 go_enter Tryz.func85,Tryz.ntmps85
 go_wp2_with fail
 go_loopw [8] (fun t8 wr=>∃ (m:Nat) (R:SF) (Lm:List Ins),m+R.len=n∧chkB part κ f top R=none∧R.size≤1099511627776∧t8=.int .i64 m∧SFAt w x.N R b (off+m * 7)∧SF.All (BkM x part) R∧x.at wr f W Lm∧L ++ CD=Lm ++ cB x.k R W f Lm.length∧KT x.B x.wm w wr) (fun t8 _=>n - (intOf t8).toNat)
 case atStart=>exact ⟨0,F,L,by rw [HN.out,Nat.zero_add],HC.out,HZ.out,rfl,by simpa using HE.out,HI.out,HH.out,by rw [HCD.out],KT.refl _ _ _⟩
 case round =>
  obtain ⟨m,R,Lm,hm',hcr,hzr,rfl,hR,hall,hat,hcode,hkr⟩:=hrel
  have HRR:=J hR
  have HAT:=J hat
  have HCR:=J hcr
  have HALL:=J hall
  have HCO:=J hcode
  have HKR:=J hkr
  have HZR:=J hzr
  clear hR hat hcr hall hcode hkr hzr
  cases R with
  | nil =>
   simp only [SF.len,Nat.add_zero] at hm'
   subst hm'
   go_wp2_with fail
   go_end0
   refine ⟨rfl,?_,HKR.out⟩
   rw [HCO.out,show cB x.k .nil W f Lm.length=[] from rfl,List.append_nil]
   exact HAT.out
  | cons kind name es low high l els r =>
   obtain ⟨hb,h1,h2,h3,h4,⟨eA,ec,lA,lc,xA,xc,be,oe,bl,ol,bx,ox,hh,hg,n1,n2,n3,a1,a2,a3,he,hl,hxx⟩,hr⟩:=HRR.out
   simp only [SF.len] at hm'
   have hlt:(m:Int) < n:=by omega
   obtain rfl:=HA.out (by have:=HN.out;omega)
   have hcc:=HCR.out
   rw [chkB_cons,ored_eq_none] at hcc
   have hzc:=HZR.out
   simp only [SF.size] at hzc
   obtain ⟨hkind,hst⟩:=stx_of (x:=x) (w:=w) hcc.1 zb85 h2 h3 h4 n1 n2 n3 a1 a2 a3 he hl hxx HALL.out.1 HALL.out.2.1
   have HST:=J (hst.kt HKR.out HNB.out.1 HNB.out.2)
   have HCN:=J hcc.2
   have HZN:=J (show r.size≤1099511627776 by omega)
   have HRN:=J hr
   have HAN:=J HALL.out.2.2
   have u:=kid_kt HKR.out HNB.out hb hh hg
   have u1:=u.1
   have u2:=u.2.1
   have u3:=u.2.2
   have hcb:=HCO.out
   rw [cB_cons,← List.append_assoc] at hcb
   obtain ⟨SC,hSC⟩:∃ SC,SC=cS x.k W f Lm.length kind name es low high l els:=⟨_,rfl⟩
   rw [← hSC] at hcb
   have HSC:=J hSC
   have HCB:=J (show L ++ CD=Lm ++ SC ++ cB x.k r W f ((Lm ++ SC).length:Nat) from by rw [List.length_append];exact hcb)
   have HLC:=J (show Lm.length+SC.length≤4000 from by
    have e:=congrArg List.length hcb
    have:=HL.out
    rw [← HCD.out] at this
    simp only [List.length_append] at e
    omega)
   clear u hcc hzc hst hcb hSC hh hg n1 n2 n3 a1 a2 a3 he hl hxx hb h1 h2 h3 h4 hr HRR HCR HZR HALL HCO
   have hkk:kind=0 ∨ kind=1 ∨ kind=2 ∨ kind=3 ∨ kind=4 ∨ kind=5 ∨ kind=6 ∨ kind=7 ∨ kind=8 ∨ kind=9:=by omega
   clear hkind
   rcases hkk with rfl | rfl | rfl | rfl | rfl | rfl | rfl | rfl | rfl | rfl
   ·skip
    have y0:=(kR (fun _=>False) wr).alloc (.cells (scells 0 name eA es.len ec low high lA l.len lc xA els.len xc) 151)
    have hB0:=bN wr 151 (scells 0 name eA es.len ec low high lA l.len lc xA els.len xc)
    go_upto_region 3 with (fail)
    generalize (wr.alloc (.cells (scells 0 name eA es.len ec low high lA l.len lc xA els.len xc) 151))=W1 at y0 hB0 ⊢
    refine zy5 ?_;clear hB0 y0 u1 u2 u3;intro g HB HM1 HX1 HY0
    (repeat first|refine qs3 ?_|refine qt3 ⟨KT.ext (Kept.drew (kR _ _)),_,(HM1.out).drew⟩ (by intro w1 hS;have d0:=KT.block hS.1 (HB.out) zb84 zb84;have d1:=bC d0;have d2:=d0.lt;obtain ⟨L',hm'⟩:=hS.2;obtain ⟨A',n',cp',hb',_⟩:=hm'.blk;have d3:=bC hb';have d4:=hb'.lt;have d5:=look_stmt hm'.tabS 0 (fv:=.func (.func 128) #[] #[]) rfl;have d6:=bH d0;have d7:=bG d0;exact zgo) ?_|refine qp3 ⟨KT.ext (Kept.drew (kR _ _)),_,(HM1.out).drew⟩ ?_)
    refine zy27 ?_;intro yd K hK
    go_wp2_with fail
    refine (call_0 x part f W HMk.out κ HWz.out HF8.out low high name eA ec es lA lc l xA xc els Lm _ (HM1.out).drew (HX1.out.kt yd HM1.out.hN HM1.out.hB) zb59).mono ?_
    exact zz38
   ·skip
    have y0:=(kR (fun _=>False) wr).alloc (.cells (scells 1 name eA es.len ec low high lA l.len lc xA els.len xc) 151)
    have hB0:=bN wr 151 (scells 1 name eA es.len ec low high lA l.len lc xA els.len xc)
    go_upto_region 3 with (fail)
    generalize (wr.alloc (.cells (scells 1 name eA es.len ec low high lA l.len lc xA els.len xc) 151))=W1 at y0 hB0 ⊢
    refine zy5 ?_;clear hB0 y0 u1 u2 u3;intro g HB HM1 HX1 HY0
    (repeat first|refine qs3 ?_|refine qt3 ⟨KT.ext (Kept.drew (kR _ _)),_,(HM1.out).drew⟩ (by intro w1 hS;have d0:=KT.block hS.1 (HB.out) zb84 zb84;have d1:=bC d0;have d2:=d0.lt;obtain ⟨L',hm'⟩:=hS.2;obtain ⟨A',n',cp',hb',_⟩:=hm'.blk;have d3:=bC hb';have d4:=hb'.lt;have d5:=look_stmt hm'.tabS 1 (fv:=.func (.func 129) #[] #[]) rfl;have d6:=bH d0;have d7:=bG d0;exact zgo) ?_|refine qp3 ⟨KT.ext (Kept.drew (kR _ _)),_,(HM1.out).drew⟩ ?_)
    refine zy27 ?_;intro yd K hK
    go_wp2_with fail
    refine (call_1 x part f W HMk.out κ HWz.out HF8.out low high name eA ec es lA lc l xA xc els Lm _ (HM1.out).drew (HX1.out.kt yd HM1.out.hN HM1.out.hB) zb59).mono ?_
    exact zz38
   ·skip
    have y0:=(kR (fun _=>False) wr).alloc (.cells (scells 2 name eA es.len ec low high lA l.len lc xA els.len xc) 151)
    have hB0:=bN wr 151 (scells 2 name eA es.len ec low high lA l.len lc xA els.len xc)
    go_upto_region 3 with (fail)
    generalize (wr.alloc (.cells (scells 2 name eA es.len ec low high lA l.len lc xA els.len xc) 151))=W1 at y0 hB0 ⊢
    refine zy5 ?_;clear hB0 y0 u1 u2 u3;intro g HB HM1 HX1 HY0
    (repeat first|refine qs3 ?_|refine qt3 ⟨KT.ext (Kept.drew (kR _ _)),_,(HM1.out).drew⟩ (by intro w1 hS;have d0:=KT.block hS.1 (HB.out) zb84 zb84;have d1:=bC d0;have d2:=d0.lt;obtain ⟨L',hm'⟩:=hS.2;obtain ⟨A',n',cp',hb',_⟩:=hm'.blk;have d3:=bC hb';have d4:=hb'.lt;have d5:=look_stmt hm'.tabS 2 (fv:=.func (.func 130) #[] #[]) rfl;have d6:=bH d0;have d7:=bG d0;exact zgo) ?_|refine qp3 ⟨KT.ext (Kept.drew (kR _ _)),_,(HM1.out).drew⟩ ?_)
    refine zy27 ?_;intro yd K hK
    go_wp2_with fail
    refine (call_2 x part f W HMk.out κ HWz.out HF8.out low high name eA ec es lA lc l xA xc els Lm _ (HM1.out).drew (HX1.out.kt yd HM1.out.hN HM1.out.hB) zb59).mono ?_
    exact zz38
   ·skip
    have y0:=(kR (fun _=>False) wr).alloc (.cells (scells 3 name eA es.len ec low high lA l.len lc xA els.len xc) 151)
    have hB0:=bN wr 151 (scells 3 name eA es.len ec low high lA l.len lc xA els.len xc)
    go_upto_region 3 with (fail)
    generalize (wr.alloc (.cells (scells 3 name eA es.len ec low high lA l.len lc xA els.len xc) 151))=W1 at y0 hB0 ⊢
    refine zy5 ?_;clear hB0 y0 u1 u2 u3;intro g HB HM1 HX1 HY0
    (repeat first|refine qs3 ?_|refine qt3 ⟨KT.ext (Kept.drew (kR _ _)),_,(HM1.out).drew⟩ (by intro w1 hS;have d0:=KT.block hS.1 (HB.out) zb84 zb84;have d1:=bC d0;have d2:=d0.lt;obtain ⟨L',hm'⟩:=hS.2;obtain ⟨A',n',cp',hb',_⟩:=hm'.blk;have d3:=bC hb';have d4:=hb'.lt;have d5:=look_stmt hm'.tabS 3 (fv:=.func (.func 131) #[] #[]) rfl;have d6:=bH d0;have d7:=bG d0;exact zgo) ?_|refine qp3 ⟨KT.ext (Kept.drew (kR _ _)),_,(HM1.out).drew⟩ ?_)
    refine zy27 ?_;intro yd K hK
    go_wp2_with fail
    refine (call_3 x part f W HMk.out κ HWz.out HF8.out low high name eA ec es lA lc l xA xc els Lm _ (HM1.out).drew (HX1.out.kt yd HM1.out.hN HM1.out.hB) zb59).mono ?_
    exact zz38
   ·skip
    have y0:=(kR (fun _=>False) wr).alloc (.cells (scells 4 name eA es.len ec low high lA l.len lc xA els.len xc) 151)
    have hB0:=bN wr 151 (scells 4 name eA es.len ec low high lA l.len lc xA els.len xc)
    go_upto_region 3 with (fail)
    generalize (wr.alloc (.cells (scells 4 name eA es.len ec low high lA l.len lc xA els.len xc) 151))=W1 at y0 hB0 ⊢
    refine zy5 ?_;clear hB0 y0 u1 u2 u3;intro g HB HM1 HX1 HY0
    (repeat first|refine qs3 ?_|refine qt3 ⟨KT.ext (Kept.drew (kR _ _)),_,(HM1.out).drew⟩ (by intro w1 hS;have d0:=KT.block hS.1 (HB.out) zb84 zb84;have d1:=bC d0;have d2:=d0.lt;obtain ⟨L',hm'⟩:=hS.2;obtain ⟨A',n',cp',hb',_⟩:=hm'.blk;have d3:=bC hb';have d4:=hb'.lt;have d5:=look_stmt hm'.tabS 4 (fv:=.func (.func 132) #[] #[]) rfl;have d6:=bH d0;have d7:=bG d0;exact zgo) ?_|refine qp3 ⟨KT.ext (Kept.drew (kR _ _)),_,(HM1.out).drew⟩ ?_)
    refine zy27 ?_;intro yd K hK
    go_wp2_with fail
    refine (call_4 x part f W HMk.out κ HWz.out HF8.out low high name eA ec es lA lc l xA xc els Lm _ (HM1.out).drew (HX1.out.kt yd HM1.out.hN HM1.out.hB) zb59).mono ?_
    exact zz38
   ·skip
    have y0:=(kR (fun _=>False) wr).alloc (.cells (scells 5 name eA es.len ec low high lA l.len lc xA els.len xc) 151)
    have hB0:=bN wr 151 (scells 5 name eA es.len ec low high lA l.len lc xA els.len xc)
    go_upto_region 3 with (fail)
    generalize (wr.alloc (.cells (scells 5 name eA es.len ec low high lA l.len lc xA els.len xc) 151))=W1 at y0 hB0 ⊢
    refine zy5 ?_;clear hB0 y0 u1 u2 u3;intro g HB HM1 HX1 HY0
    (repeat first|refine qs3 ?_|refine qt3 ⟨KT.ext (Kept.drew (kR _ _)),_,(HM1.out).drew⟩ (by intro w1 hS;have d0:=KT.block hS.1 (HB.out) zb84 zb84;have d1:=bC d0;have d2:=d0.lt;obtain ⟨L',hm'⟩:=hS.2;obtain ⟨A',n',cp',hb',_⟩:=hm'.blk;have d3:=bC hb';have d4:=hb'.lt;have d5:=look_stmt hm'.tabS 5 (fv:=.func (.func 133) #[] #[]) rfl;have d6:=bH d0;have d7:=bG d0;exact zgo) ?_|refine qp3 ⟨KT.ext (Kept.drew (kR _ _)),_,(HM1.out).drew⟩ ?_)
    refine zy27 ?_;intro yd K hK
    go_wp2_with fail
    refine (call_5 x part f W HMk.out κ HWz.out HF8.out low high name eA ec es lA lc l xA xc els Lm _ (HM1.out).drew (HX1.out.kt yd HM1.out.hN HM1.out.hB) zb59).mono ?_
    exact zz38
   ·skip
    have y0:=(kR (fun _=>False) wr).alloc (.cells (scells 6 name eA es.len ec low high lA l.len lc xA els.len xc) 151)
    have hB0:=bN wr 151 (scells 6 name eA es.len ec low high lA l.len lc xA els.len xc)
    go_upto_region 3 with (fail)
    generalize (wr.alloc (.cells (scells 6 name eA es.len ec low high lA l.len lc xA els.len xc) 151))=W1 at y0 hB0 ⊢
    refine zy5 ?_;clear hB0 y0 u1 u2 u3;intro g HB HM1 HX1 HY0
    (repeat first|refine qs3 ?_|refine qt3 ⟨KT.ext (Kept.drew (kR _ _)),_,(HM1.out).drew⟩ (by intro w1 hS;have d0:=KT.block hS.1 (HB.out) zb84 zb84;have d1:=bC d0;have d2:=d0.lt;obtain ⟨L',hm'⟩:=hS.2;obtain ⟨A',n',cp',hb',_⟩:=hm'.blk;have d3:=bC hb';have d4:=hb'.lt;have d5:=look_stmt hm'.tabS 6 (fv:=.func (.func 134) #[] #[]) rfl;have d6:=bH d0;have d7:=bG d0;exact zgo) ?_|refine qp3 ⟨KT.ext (Kept.drew (kR _ _)),_,(HM1.out).drew⟩ ?_)
    refine zy27 ?_;intro yd K hK
    go_wp2_with fail
    refine (call_6 x part f W HMk.out κ HWz.out HF8.out low high name eA ec es lA lc l xA xc els Lm _ (HM1.out).drew (HX1.out.kt yd HM1.out.hN HM1.out.hB) zb59).mono ?_
    exact zz38
   ·skip
    have y0:=(kR (fun _=>False) wr).alloc (.cells (scells 7 name eA es.len ec low high lA l.len lc xA els.len xc) 151)
    have hB0:=bN wr 151 (scells 7 name eA es.len ec low high lA l.len lc xA els.len xc)
    go_upto_region 3 with (fail)
    generalize (wr.alloc (.cells (scells 7 name eA es.len ec low high lA l.len lc xA els.len xc) 151))=W1 at y0 hB0 ⊢
    refine zy5 ?_;clear hB0 y0 u1 u2 u3;intro g HB HM1 HX1 HY0
    (repeat first|refine qs3 ?_|refine qt3 ⟨KT.ext (Kept.drew (kR _ _)),_,(HM1.out).drew⟩ (by intro w1 hS;have d0:=KT.block hS.1 (HB.out) zb84 zb84;have d1:=bC d0;have d2:=d0.lt;obtain ⟨L',hm'⟩:=hS.2;obtain ⟨A',n',cp',hb',_⟩:=hm'.blk;have d3:=bC hb';have d4:=hb'.lt;have d5:=look_stmt hm'.tabS 7 (fv:=.func (.func 135) #[] #[]) rfl;have d6:=bH d0;have d7:=bG d0;exact zgo) ?_|refine qp3 ⟨KT.ext (Kept.drew (kR _ _)),_,(HM1.out).drew⟩ ?_)
    refine zy27 ?_;intro yd K hK
    go_wp2_with fail
    refine (call_7 x part f W HMk.out κ HWz.out HF8.out low high name eA ec es lA lc l xA xc els Lm _ (HM1.out).drew (HX1.out.kt yd HM1.out.hN HM1.out.hB) zb59).mono ?_
    exact zz38
   ·skip
    have y0:=(kR (fun _=>False) wr).alloc (.cells (scells 8 name eA es.len ec low high lA l.len lc xA els.len xc) 151)
    have hB0:=bN wr 151 (scells 8 name eA es.len ec low high lA l.len lc xA els.len xc)
    go_upto_region 3 with (fail)
    generalize (wr.alloc (.cells (scells 8 name eA es.len ec low high lA l.len lc xA els.len xc) 151))=W1 at y0 hB0 ⊢
    refine zy5 ?_;clear hB0 y0 u1 u2 u3;intro g HB HM1 HX1 HY0
    (repeat first|refine qs3 ?_|refine qt3 ⟨KT.ext (Kept.drew (kR _ _)),_,(HM1.out).drew⟩ (by intro w1 hS;have d0:=KT.block hS.1 (HB.out) zb84 zb84;have d1:=bC d0;have d2:=d0.lt;obtain ⟨L',hm'⟩:=hS.2;obtain ⟨A',n',cp',hb',_⟩:=hm'.blk;have d3:=bC hb';have d4:=hb'.lt;have d5:=look_stmt hm'.tabS 8 (fv:=.func (.func 136) #[] #[]) rfl;have d6:=bH d0;have d7:=bG d0;exact zgo) ?_|refine qp3 ⟨KT.ext (Kept.drew (kR _ _)),_,(HM1.out).drew⟩ ?_)
    refine zy27 ?_;intro yd K hK
    go_wp2_with fail
    refine (call_8 x part f W HMk.out κ HWz.out HF8.out low high name eA ec es lA lc l xA xc els Lm _ (HM1.out).drew (HX1.out.kt yd HM1.out.hN HM1.out.hB) zb59).mono ?_
    exact zz38
   ·skip
    have y0:=(kR (fun _=>False) wr).alloc (.cells (scells 9 name eA es.len ec low high lA l.len lc xA els.len xc) 151)
    have hB0:=bN wr 151 (scells 9 name eA es.len ec low high lA l.len lc xA els.len xc)
    go_upto_region 3 with (fail)
    generalize (wr.alloc (.cells (scells 9 name eA es.len ec low high lA l.len lc xA els.len xc) 151))=W1 at y0 hB0 ⊢
    refine zy5 ?_;clear hB0 y0 u1 u2 u3;intro g HB HM1 HX1 HY0
    (repeat first|refine qs3 ?_|refine qt3 ⟨KT.ext (Kept.drew (kR _ _)),_,(HM1.out).drew⟩ (by intro w1 hS;have d0:=KT.block hS.1 (HB.out) zb84 zb84;have d1:=bC d0;have d2:=d0.lt;obtain ⟨L',hm'⟩:=hS.2;obtain ⟨A',n',cp',hb',_⟩:=hm'.blk;have d3:=bC hb';have d4:=hb'.lt;have d5:=look_stmt hm'.tabS 9 (fv:=.func (.func 137) #[] #[]) rfl;have d6:=bH d0;have d7:=bG d0;exact zgo) ?_|refine qp3 ⟨KT.ext (Kept.drew (kR _ _)),_,(HM1.out).drew⟩ ?_)
    refine zy27 ?_;intro yd K hK
    go_wp2_with fail
    refine (call_9 x part f W HMk.out κ HWz.out HF8.out low high name eA ec es lA lc l xA xc els Lm _ (HM1.out).drew (HX1.out.kt yd HM1.out.hN HM1.out.hB) zb59).mono ?_
    exact zz38
end Go.Proofs.YtbfbabbcdochjaaGreatDoor
