/- Several texts joined: Dj, Dk. -/
import Derived.Defers
import Derived.Test.YtbfbabbcdochjaaGreatDoorRxpk
import Derived.Test.YtbfbabbcdochjaaGreatDoorRxaz
set_option maxHeartbeats 4000000
namespace Go.Proofs.YtbfbabbcdochjaaGreatDoor
open Go.RowKit So Mc
theorem SSl.kt {w w':World} {B wm N:Nat} {A:Option Addr} {n:Nat} {F:SF} (h:SSl w N A n F) (hk:KT B wm w w') (hN:N≤B) (hB:B≤w.heap.size):SSl w' N A n F :=
 h.kept hk.below (Nat.le_trans hN hB) (fun _i q=>Nat.le_trans hN q)
abbrev BkM (x:Mst) (part:Nat) (F:SF):Prop:=∀ (f:Nat) (W:Wd) (κ:Kn) (top:Bool) (A:Option Addr) (cap:Nat) (L:List Ins) (w:World),Mok x W→(∀ s,κ s=0→W s=0)→f≤8→x.at w f W L→SSl w x.N A F.len F→chkB part κ f top F=none→F.size≤1099511627776→L.length+(cB x.k F W f L.length).length≤4000 →
 Calls Tryz.prog 85 #[.pointer (some ⟨x.mb,0,none⟩),.slice A F.len cap] w fun e w'=>e=.returned (.tuple #[])∧x.at w' f W (L ++ cB x.k F W f L.length)∧KT x.B x.wm w w'
theorem isNil_len (F:SF):F.isNil=decide (F.len=0):=by cases F <;> simp [SF.isNil,SF.len]
set_option maxRecDepth 100000 in
theorem choose_any (x:Mst) (part f:Nat) (W:Wd) (hM:Mok x W) (κ:Kn) (hWz:∀ s,κ s=0→W s=0) (f8:f≤8) (low high:Int) (s:Str) (A:Option Addr) (ec:Nat) (F:EF) (lA:Option Addr) (lc:Nat) (l:SF) (xA:Option Addr) (xc:Nat) (els:SF) (L:List Ins) (w:World) (h:x.at w f W L) (hX:Sx w x.N κ 2 s A F low high)
 (hl:SSl w x.N lA l.len l) (hx:SSl w x.N xA els.len els) (il:BkM x part l) (ix:BkM x part els) (hcl:chkB part κ f false l=none) (hcx:chkB part κ f false els=none) (zl:l.size≤1099511627776) (zx:els.size≤1099511627776) (hL:L.length+(cS x.k W f L.length 2 s F low high l els).length≤4000) :
 Calls Tryz.prog 130 #[.pointer (some ⟨x.mb,0,none⟩),.agg (scells 2 s A F.len ec low high lA l.len lc xA els.len xc)] w fun e w'=>e=.returned (.tuple #[])∧x.at w' f W (L ++ (cS x.k W f L.length 2 s F low high l els))∧KT x.B x.wm w w':=by
 have hK:=(expr_all x f W hM κ F).2
 have HMk:=J hM
 obtain ⟨h0,h1,h2,h3⟩:=hM
 have hdp:=hX.dp_
 have HNB:=J (And.intro h.hN h.hB)
 have HSl:=J hl
 have HSx:=J hx
 have HIl:=J il
 have HIx:=J ix
 have HCl:=J (And.intro hcl hcx)
 have HZ:=J (And.intro zl zx)
 have HWz:=J hWz
 have hl0:0 < F.len:=by rw [hX.len];decide
 refine zy109 ?_;intro o0 n0 s0 K0 A0 c0 kb0 ko0 ka0 KH0 KG0 KX0 KE0 KC0 KL0
 subst ka0
 have hlI0:(0:Int) < F.len:=by omega
 obtain ⟨E,hE⟩:∃ E,E=cX x W o0 n0 s0 K0 0:=⟨_,rfl⟩
 obtain ⟨Lb,hLb⟩:∃ Lb,Lb=cB x.k l W f ((L.length:Int)+E.length+1):=⟨_,rfl⟩
 have hcode:cS x.k W f L.length 2 s F low high l els=if els.isNil then cIf1 x.k L.length E Lb else cIf x.k L.length E Lb (cB x.k els W f ((L.length:Int)+E.length+1+Lb.length+1)):=by
  rw [hLb,hE,← KC0.out]
  rfl
 have HE:=J hE
 have HLb:=J hLb
 have HCO:=J hcode
 have HLL:=J (show L.length+E.length+1+Lb.length≤4000 from by
  rw [hcode] at hL
  split at hL <;> simp only [cIf1,cIf,List.length_append,List.length_cons,List.length_nil] at hL <;> omega)
 clear hcode hE hLb
 have y1:Ext w (w.alloc (.cells (scells 2 s (some ⟨kb0,ko0,none⟩) F.len ec low high lA l.len lc xA els.len xc) 151)):=(kR _ w).alloc _
 have hB0:=bN w 151 (scells 2 s (some ⟨kb0,ko0,none⟩) F.len ec low high lA l.len lc xA els.len xc)
 refine zy30 ?_;intro hMS hX1
 clear h hX hl hx il ix hcl hcx zl zx hWz hK
 go_enter Tryz.func130,Tryz.ntmps130
 go_upto_region 1 with (fail)
 generalize (w.alloc (.cells (scells 2 s (some ⟨kb0,ko0,none⟩) F.len ec low high lA l.len lc xA els.len xc) 151))=W1 at y1 hB0 hMS hX1 ⊢
 refine zy7 ?_;clear hB0 hMS hX1 hL;intro g HB HX HM0 HL Y0 HS1
 refine zy97 ?_;intro q0 i1 i2
 obtain ⟨_,_,_,m0,_⟩:=(HM0.out).blk
 refine zy45 ?_;intro m1 m0 u0a u0b u0c
 go_wp2_with fail
 refine (KE0.out o0 n0 s0 A0 c0 0 (L) _ (HM0.out) (KX0.out.kt ((KT.ext y1).trans Y0.out) HNB.out.1 HNB.out.2) (by have:=HLL.out;rw [HE.out] at this;omega)).mono ?_
 refine zy39 ?_;intro w1 YK1 HM1 HKK1
 clear u0a u0b u0c
 have HM1':=HM1.out
 rw [show L ++ cX x W o0 n0 s0 K0 0=L ++ E from by rw [HE.out]] at HM1'
 have HM1N:=J HM1'
 clear HM1'
 go_wp2_with fail
 refine (free_any x.B x.N x.mb x.wm x.sm x.em f x.p x.c x.b W (L ++ E) 0 _ (HM1N.out) ⟨h0,by omega⟩ ⟨by decide,by decide⟩).mono ?_
 rintro e wf ⟨rfl,rfl⟩
 go_wp2_with fail
 refine (put_any x.B x.N x.mb x.wm x.sm x.em f x.p x.c x.b W (L ++ E) ⟨20,0,fr x.b 0,0⟩ ⟨(i64_small (n:=20) zb84),(i64_small (n:=0) zb84),(fr_ok h0 h1 (i:=0) zb84 zb84),(i64_small (n:=0) zb84)⟩ (by have:=HLL.out;simp only [List.length_append];omega) _ (HM1N.out)).mono ?_
 refine zy68 ?_;intro w2 YK2 HM2 HKK2
 obtain ⟨jn,hjn⟩:∃ jn,jn=(L ++ E).length:=⟨_,rfl⟩
 rw [← hjn]
 have HJ:=J hjn
 clear hjn
 clear q0 i1 i2 m0 m1
 have q0:=KT.block YK2.out HB.out zb84 zb84
 have i1:=bC q0
 have i2:=q0.lt
 obtain ⟨_,_,_,m0,_⟩:=(HM2.out).blk
 have m1:=m0.lt
 have m0:=bC m0
 go_wp2_with fail
 refine (HIl.out f W κ false lA lc (L ++ E ++ [⟨20,0,fr x.b 0,0⟩]) _ HMk.out HWz.out f8 (HM2.out) (HSl.out.kt ((KT.ext y1).trans YK2.out) HNB.out.1 HNB.out.2) HCl.out.1 HZ.out.1 (by rw [show (((L ++ E ++ [⟨20,0,fr x.b 0,0⟩]:List Ins).length:Nat):Int)=(L.length:Int)+E.length+1 from by simp only [List.length_append,List.length_cons,List.length_nil];omega,← HLb.out];have:=HLL.out;simp only [List.length_append,List.length_cons,List.length_nil];omega)).mono ?_
 refine zy92 ?_;intro w3 YK3 HM3 HKK3
 have HM3':=HM3.out
 rw [show L ++ E ++ [⟨20,0,fr x.b 0,0⟩] ++ cB x.k l W f (L ++ E ++ [⟨20,0,fr x.b 0,0⟩]:List Ins).length=L ++ E ++ [⟨20,0,fr x.b 0,0⟩] ++ Lb from by rw [show (((L ++ E ++ [⟨20,0,fr x.b 0,0⟩]:List Ins).length:Nat):Int)=(L.length:Int)+E.length+1 from by simp only [List.length_append,List.length_cons,List.length_nil];omega,← HLb.out]] at HM3'
 have HM3N:=J HM3'
 clear HM3'
 clear q0 i1 i2 m0 m1
 have q0:=KT.block YK3.out HB.out zb84 zb84
 have i1:=bC q0
 have i2:=q0.lt
 obtain ⟨_,_,_,m0,_⟩:=(HM3N.out).blk
 have m1:=m0.lt
 have m0:=bC m0
 by_cases hn:els.len=0
 ·skip
  have hnil:((els.len:Int) == 0)=true:=by simp [hn]
  have HI0:=J (show els.isNil=true from by rw [isNil_len];simp [hn])
  clear hn
  go_wp2_with fail
  refine (here_any x.B x.N x.mb x.wm x.sm x.em f x.p x.c x.b W (L ++ E ++ [⟨20,0,fr x.b 0,0⟩] ++ Lb) jn zb35 (by have:=HLL.out;simp only [List.length_append,List.length_cons,List.length_nil];omega) _ (HM3N.out)).mono ?_
  rintro e w4 ⟨rfl,hm4,hk4⟩
  have YK4:=J ((YK3.out).trans hk4)
  have HM4:=J hm4
  have HKK4:=J hk4
  clear hm4 hk4
  have hgo:goalL (L ++ E ++ [⟨20,0,fr x.b 0,0⟩] ++ Lb) jn ((L ++ E ++ [⟨20,0,fr x.b 0,0⟩] ++ Lb:List Ins).length:Nat)=L ++ cS x.k W f L.length 2 s F low high l els:=by
   rw [HCO.out,if_pos HI0.out,HJ.out]
   have hv:(((L ++ E ++ [⟨20,0,fr x.b 0,0⟩] ++ Lb:List Ins).length:Nat):Int)=(L.length:Int)+E.length+1+Lb.length:=by
    simp only [List.length_append,List.length_cons,List.length_nil];omega
   rw [hv,goalL_mid (L ++ E) Lb ⟨20,0,fr x.b 0,0⟩ ((L.length:Int)+E.length+1+Lb.length)]
   simp only [cIf1,List.append_assoc]
  go_wp2_with fail
  refine results_none' Tryz.results130 rfl ?_
  have hmf:=HM4.out
  rw [hgo] at hmf
  exact ⟨rfl,hmf,(KT.ext y1).trans YK4.out⟩
 ·skip
  have hnil:((els.len:Int) == 0)=false:=by simp [hn]
  have hfl:els.isNil=false:=by rw [isNil_len];simp [hn]
  obtain ⟨Xb,hXb⟩:∃ Xb,Xb=cB x.k els W f ((L.length:Int)+E.length+1+Lb.length+1):=⟨_,rfl⟩
  have HXb:=J hXb
  have HCO2:=J (show cS x.k W f L.length 2 s F low high l els=cIf x.k L.length E Lb Xb from by rw [HCO.out,hfl,hXb];rfl)
  have HLX:=J (show L.length+E.length+1+Lb.length+1+Xb.length≤4000 from by
   have:=HL.out
   rw [HCO2.out] at this
   simp only [cIf,List.length_append,List.length_cons,List.length_nil] at this
   omega)
  clear hn hXb hfl
  go_wp2_with fail
  refine (put_any x.B x.N x.mb x.wm x.sm x.em f x.p x.c x.b W (L ++ E ++ [⟨20,0,fr x.b 0,0⟩] ++ Lb) ⟨19,0,0,0⟩ ⟨(i64_small (n:=19) zb84),(i64_small (n:=0) zb84),(i64_small (n:=0) zb84),(i64_small (n:=0) zb84)⟩ zb34 _ (HM3N.out)).mono ?_
  rintro e w4 ⟨rfl,hm4,hk4⟩
  have YK4:=J ((YK3.out).trans hk4)
  have HM4:=J hm4
  have HKK4:=J hk4
  clear hm4 hk4
  obtain ⟨dn,hdn⟩:∃ dn,dn=(L ++ E ++ [⟨20,0,fr x.b 0,0⟩] ++ Lb:List Ins).length:=⟨_,rfl⟩
  rw [← hdn]
  have HD:=J hdn
  clear hdn
  go_wp2_with fail
  refine (here_any x.B x.N x.mb x.wm x.sm x.em f x.p x.c x.b W (L ++ E ++ [⟨20,0,fr x.b 0,0⟩] ++ Lb ++ [⟨19,0,0,0⟩]) jn zb35 zb34 _ (HM4.out)).mono ?_
  rintro e w5 ⟨rfl,hm5,hk5⟩
  have YK5:=J ((YK4.out).trans hk5)
  have HM5:=J hm5
  have HKK5:=J hk5
  clear hm5 hk5
  have hg1:goalL (L ++ E ++ [⟨20,0,fr x.b 0,0⟩] ++ Lb ++ [⟨19,0,0,0⟩]) jn ((L ++ E ++ [⟨20,0,fr x.b 0,0⟩] ++ Lb ++ [⟨19,0,0,0⟩]:List Ins).length:Nat)=L ++ E ++ [⟨20,(L.length:Int)+E.length+1+Lb.length+1,fr x.b 0,0⟩] ++ Lb ++ [⟨19,0,0,0⟩]:=by
   rw [HJ.out]
   have hv:(((L ++ E ++ [⟨20,0,fr x.b 0,0⟩] ++ Lb ++ [⟨19,0,0,0⟩]:List Ins).length:Nat):Int)=(L.length:Int)+E.length+1+Lb.length+1:=by
    simp only [List.length_append,List.length_cons,List.length_nil];omega
   have:=goalL_mid (L ++ E) (Lb ++ [⟨19,0,0,0⟩]) ⟨20,0,fr x.b 0,0⟩ ((L.length:Int)+E.length+1+Lb.length+1)
   rw [hv]
   simp only [← List.append_assoc] at this ⊢
   exact this
  have hmg:=HM5.out
  rw [hg1] at hmg
  have HM5N:=J hmg
  clear hmg hg1
  clear q0 i1 i2 m0 m1
  have q0:=KT.block YK5.out HB.out zb84 zb84
  have i1:=bC q0
  have i2:=q0.lt
  obtain ⟨_,_,_,m0,_⟩:=(HM5N.out).blk
  have m1:=m0.lt
  have m0:=bC m0
  go_wp2_with fail
  refine (HIx.out f W κ false xA xc (L ++ E ++ [⟨20,(L.length:Int)+E.length+1+Lb.length+1,fr x.b 0,0⟩] ++ Lb ++ [⟨19,0,0,0⟩]) _ HMk.out HWz.out f8 (HM5N.out) (HSx.out.kt ((KT.ext y1).trans YK5.out) HNB.out.1 HNB.out.2) HCl.out.2 HZ.out.2 (by rw [show (((L ++ E ++ [⟨20,(L.length:Int)+E.length+1+Lb.length+1,fr x.b 0,0⟩] ++ Lb ++ [⟨19,0,0,0⟩]:List Ins).length:Nat):Int)=(L.length:Int)+E.length+1+Lb.length+1 from by simp only [List.length_append,List.length_cons,List.length_nil];omega,← HXb.out];have:=HLX.out;simp only [List.length_append,List.length_cons,List.length_nil];omega)).mono ?_
  rintro e w6 ⟨rfl,hm6,hk6⟩
  have YK6:=J ((YK5.out).trans hk6)
  have HM6:=J hm6
  have HKK6:=J hk6
  clear hm6 hk6
  have HM6':=HM6.out
  rw [show L ++ E ++ [⟨20,(L.length:Int)+E.length+1+Lb.length+1,fr x.b 0,0⟩] ++ Lb ++ [⟨19,0,0,0⟩] ++ cB x.k els W f (L ++ E ++ [⟨20,(L.length:Int)+E.length+1+Lb.length+1,fr x.b 0,0⟩] ++ Lb ++ [⟨19,0,0,0⟩]:List Ins).length=L ++ E ++ [⟨20,(L.length:Int)+E.length+1+Lb.length+1,fr x.b 0,0⟩] ++ Lb ++ [⟨19,0,0,0⟩] ++ Xb from by rw [show (((L ++ E ++ [⟨20,(L.length:Int)+E.length+1+Lb.length+1,fr x.b 0,0⟩] ++ Lb ++ [⟨19,0,0,0⟩]:List Ins).length:Nat):Int)=(L.length:Int)+E.length+1+Lb.length+1 from by simp only [List.length_append,List.length_cons,List.length_nil];omega,← HXb.out]] at HM6'
  have HM6N:=J HM6'
  clear HM6'
  go_wp2_with fail
  refine (here_any x.B x.N x.mb x.wm x.sm x.em f x.p x.c x.b W (L ++ E ++ [⟨20,(L.length:Int)+E.length+1+Lb.length+1,fr x.b 0,0⟩] ++ Lb ++ [⟨19,0,0,0⟩] ++ Xb) dn (by rw [HD.out];simp only [List.length_append,List.length_cons,List.length_nil];omega) zb34 _ (HM6N.out)).mono ?_
  rintro e w7 ⟨rfl,hm7,hk7⟩
  have YK7:=J ((YK6.out).trans hk7)
  have HM7:=J hm7
  have HKK7:=J hk7
  clear hm7 hk7
  have hgo:goalL (L ++ E ++ [⟨20,(L.length:Int)+E.length+1+Lb.length+1,fr x.b 0,0⟩] ++ Lb ++ [⟨19,0,0,0⟩] ++ Xb) dn ((L ++ E ++ [⟨20,(L.length:Int)+E.length+1+Lb.length+1,fr x.b 0,0⟩] ++ Lb ++ [⟨19,0,0,0⟩] ++ Xb:List Ins).length:Nat)=L ++ cS x.k W f L.length 2 s F low high l els:=by
   rw [HCO2.out,HD.out]
   have hv:(((L ++ E ++ [⟨20,(L.length:Int)+E.length+1+Lb.length+1,fr x.b 0,0⟩] ++ Lb ++ [⟨19,0,0,0⟩] ++ Xb:List Ins).length:Nat):Int)=(L.length:Int)+E.length+1+Lb.length+1+Xb.length:=by
    simp only [List.length_append,List.length_cons,List.length_nil];omega
   have hdl:(L ++ E ++ [⟨20,0,fr x.b 0,0⟩] ++ Lb:List Ins).length=(L ++ E ++ [⟨20,(L.length:Int)+E.length+1+Lb.length+1,fr x.b 0,0⟩] ++ Lb:List Ins).length:=by
    simp only [List.length_append,List.length_cons,List.length_nil]
   have hm:=goalL_mid (L ++ E ++ ([⟨20,(L.length:Int)+E.length+1+Lb.length+1,fr x.b 0,0⟩]:List Ins) ++ Lb) Xb (⟨19,0,0,0⟩:Ins) ((L.length:Int)+E.length+1+Lb.length+1+Xb.length)
   rw [hv,hdl]
   simp only [cIf,← List.append_assoc] at hm ⊢
   exact hm
  go_wp2_with fail
  go_end0
  have hmf:=HM7.out
  rw [hgo] at hmf
  exact ⟨rfl,hmf,(KT.ext y1).trans YK7.out⟩
open Go.RowKit So Mc
theorem if_want' {c:Bool} {A B:Prop} (hc:c=true) (h:A):if c=true then A else B:=by rw [if_pos hc];exact h
theorem wp_del_run {P:Program} (w:World) {o:Oper} {a:Act} {K:Act→World→Prop} {Q:Exit→Act→World→Prop} (x y:Operand) (T1 T2:TypeId)
 (ho:o.op=.call { callee:=.builtin .delete,args:=#[x,y],argTypes:=#[T1,T2] }) {v s v':Value} {w':World} (hx:a.eval x=v) (hy:a.eval y=s)
 (hr:(Builtin.delete_ #[T1,T2] o.type #[v,s]).run P w=.ok v' w') (h:K (a.put o.dst v') w'):o.wp P a w K Q:=by
 unfold Oper.wp execOp
 simp only [ho,resolve,invoke,builtin,Sem.run_bind,Sem.run_pure,Result.andThen_ok,List.map_toArray,List.map_cons,List.map_nil,hx,hy,hr]
 exact h
theorem wp_ins_run {P:Program} (w:World) {o:Oper} {a:Act} {K:Act→World→Prop} {Q:Exit→Act→World→Prop} (T:TypeId) (m k x:Operand)
 (ho:o.op=.mapUpdate T m k x) (_hd:o.dst=none) {vm vk vx:Value} {w':World} (hm:a.eval m=vm) (hk:a.eval k=vk) (hx:a.eval x=vx)
 (hr:(Instr.mapUpdate T vm vk vx).run P w=.ok () w') (h:K (a.put o.dst undef) w'):o.wp P a w K Q:=by
 unfold Oper.wp execOp
 simp only [ho,Sem.run_bind,Sem.run_pure,Result.andThen_ok,hm,hk,hx,hr,Oper.upon]
 exact h
section
variable {w w1:World} {B N mb wm sm em f:Nat} {p:Pr} {c:Pc} {b:Int} {W:Wd} {L:List Ins}
theorem MS.fors (h:MS w B N mb p c b wm sm em f W L) (f':Nat):MS (w.setCell ⟨mb,14,none⟩ (.int .i64 f')) B N mb p c b wm sm em f' W L∧KT B wm w (w.setCell ⟨mb,14,none⟩ (.int .i64 f')):=by
 obtain ⟨A,n,cp,hb,ho⟩:=h.blk
 have kS:Kept (·=mb) w (w.setCell ⟨mb,14,none⟩ (.int .i64 f')):=Kept.setCell (kR _ w) _ _ (fun _=>rfl)
 have hmm:∀ g es clock,w.heap[g]?=some (.map es clock)→¬ g=mb:=fun g es clock e q=>by
  subst q
  rw [show w.heap[g]?=_ from hb] at e
  cases e
 have kk:KT B wm w (w.setCell ⟨mb,14,none⟩ (.int .i64 f')):=KT.of_mb hb h.mbB kS
 refine ⟨⟨⟨A,n,cp,by simpa using Blk.set_ hb 14 (.int .i64 f'),own_kept ho kS (fun g hg q=>by subst q;exact own_other ho (E':=160) zb84 g hg _ _ hb)⟩,h.prog.kept kk.below (Nat.le_trans h.hN h.hB) (fun i q=>Nat.le_trans h.hN q),?_,?_,?_,h.hN,Nat.le_trans h.hB kk.size,h.mbB,h.wmB,h.okL⟩,kk⟩
 ·obtain ⟨F,h3,h4⟩:=h.words
  obtain ⟨es,clock,he,r⟩:=h3
  exact ⟨F,SMap.kept (f:=F) ⟨es,clock,he,r⟩ kS (hmm _ _ _ he),h4⟩
 ·obtain ⟨es,clock,he,r⟩:=h.tabS
  exact IMap.kept (f:=stmtF) ⟨es,clock,he,r⟩ kS (hmm _ _ _ he)
 ·obtain ⟨es,clock,he,r⟩:=h.tabE
  exact IMap.kept (f:=exprF) ⟨es,clock,he,r⟩ kS (hmm _ _ _ he)
theorem SMap.ne_IMap {g g':Nat} {F:ByteArray→Option Value} {G:Int→Option Value} (h:SMap w g F) (h':IMap w g' G) {v:Value} (hv:G 0=some v):¬ g'=g:=fun e=>by
 subst e
 obtain ⟨es,clock,hb,hk,_⟩:=h
 obtain ⟨es',clock',hb',_,_,hm⟩:=h'
 rw [hb] at hb'
 injection hb' with hb'
 injection hb' with e1 e2
 subst e1
 obtain ⟨y,hy,hky,_⟩:=(hm 0 v).1 hv
 have:=hk y hy
 rw [hky] at this
 simp [MapKept.IsKey] at this
theorem SMap.ne_blk {g b':Nat} {F:ByteArray→Option Value} {t:TypeId} {cs:Array Value} (h:SMap w g F) (hb:Blk w b' t cs):¬ b'=g:=fun e=>by
 obtain ⟨es,clock,hq,_⟩:=h
 rw [← e,show w.heap[b']?=_ from hb] at hq
 cases hq
theorem MS.word (h:MS w B N mb p c b wm sm em f W L) (hk:Kept (·=wm) w w1) {F':ByteArray→Option Value} (hm:SMap w1 wm F') {W':Wd} (hF:∀ s,(F' s).getD (.int .i64 0)=.int .i64 (W' s)) :
 MS w1 B N mb p c b wm sm em f W' L∧KT B wm w w1:=by
 obtain ⟨A,n,cp,hb,ho⟩:=h.blk
 obtain ⟨F,h3,h4⟩:=h.words
 have h3':=h3
 obtain ⟨es,clock,he,r⟩:=h3'
 have kk:KT B wm w w1:=KT.of_map he h.wmB hk
 refine ⟨⟨⟨A,n,cp,bK hb hk (fun q=>?_),own_kept ho hk (fun g hg q=>?_)⟩,h.prog.kept kk.below (Nat.le_trans h.hN h.hB) (fun i q=>Nat.le_trans h.hN q),⟨F',hm,hF⟩,h.tabS.kept hk (h3.ne_IMap h.tabS (v:=.func (.func 128) #[] #[]) rfl),h.tabE.kept hk (h3.ne_IMap h.tabE (v:=.func (.func 138) #[] #[]) rfl),h.hN,Nat.le_trans h.hB kk.size,h.mbB,h.wmB,h.okL⟩,kk⟩
 ·subst q
  rw [show w.heap[mb]?=_ from hb] at he
  cases he
 ·subst q
  obtain ⟨cur,e'⟩:=own_ty ho hg
  rw [he] at e'
  cases e'
end
theorem updW_back (W:Wd) (s:Str) (v:Int) (h:W s=0) (F:ByteArray→Option Value) (hF:∀ t,(F t).getD (.int .i64 0)=.int .i64 (updW W s v t)):∀ t,((fun t=>if t=s then none else F t) t).getD (.int .i64 0)=.int .i64 (W t):=by
 intro t
 by_cases e:t=s
 ·subst e;simp [h]
 ·have:=hF t
  simp only [updW,if_neg e] at this
  simp only [if_neg e,this]
theorem updW_on (W:Wd) (s:Str) (v:Int) (F:ByteArray→Option Value) (hF:∀ t,(F t).getD (.int .i64 0)=.int .i64 (W t)):∀ t,((fun t=>if t=s then some (.int .i64 v) else F t) t).getD (.int .i64 0)=.int .i64 (updW W s v t):=by
 intro t
 by_cases e:t=s
 ·subst e;simp [updW]
 ·have:=hF t
  simp only [updW,if_neg e,this]
set_option maxRecDepth 100000 in
theorem unloop_any (x:Mst) (f:Nat) (W:Wd) (hf:f≤8) (low high:Int) (s:Str) (h0:W s=0) (v:Int) (ec lc xc:Nat) (A lA xA:Option Addr) (n ln xn:Nat) (mp sp:Nat) (_hms:¬ mp=sp) (L:List Ins) (u:FrameMode) (w:World) (h:x.at w (f+1) (updW W s v) L)
 (hm:Blk w mp 153 #[.pointer (some ⟨x.mb,0,none⟩)]) (hs:Blk w sp 151 (scells 3 s A n ec low high lA ln lc xA xn xc)) :
 CallsD Tryz.prog 166 #[.pointer (some ⟨mp,0,none⟩),.pointer (some ⟨sp,0,none⟩)] u w fun e u' w'=>u'=u∧(e=.returned (.tuple #[])∧x.at w' f W L∧KT x.B x.wm w w'):=by
 obtain ⟨A1,n1,cp1,hb,-⟩:=h.blk
 obtain ⟨hM1,hK1⟩:=h.fors f
 obtain ⟨w1,hw1⟩:∃ w1,w1=w.setCell ⟨x.mb,14,none⟩ (.int .i64 f):=⟨_,rfl⟩
 have HW1:=J hw1
 have m1:=bC hb
 have m2:=hb.lt
 have m3:=Blk.frozen hb
 have i1:=bC hm
 have i2:=hm.lt
 have Hm:=J hm
 have Hs:=J hs
 have HM1:=J hM1
 have HK1:=J hK1
 have hfw:IntKind.i64.wrap (((f+1:Nat):Int) - 1)=f:=by
  rw [show ((f+1:Nat):Int) - 1=f by omega];exact wrap_i64 zb74
 clear h hb hM1 hK1 hw1 hm hs
 go_enter_d Tryz.func166,Tryz.ntmps166
 go_upto_region 1 with (fail)
 rw [← HW1.out] at HM1 HK1 ⊢
 have km:Blk w1 mp 153 #[.pointer (some ⟨x.mb,0,none⟩)]:=HK1.out.block Hm.out zb84 zb84
 have ks:Blk w1 sp 151 (scells 3 s A n ec low high lA ln lc xA xn xc):=HK1.out.block Hs.out zb84 zb84
 obtain ⟨A2,n2,cp2,hb2,-⟩:=HM1.out.blk
 obtain ⟨F,hF,hFW⟩:=HM1.out.words
 obtain ⟨w2,hrun,hF2,hk2⟩:=SMap.del (P:=Tryz.prog) (hF.ext (kR (fun _=>False) w1).drew) Tryz.underlying154 Tryz.underlying9 0 s
 obtain ⟨hM2,hK2⟩:=(HM1.out.ext (kR (fun _=>False) w1).drew).word hk2 hF2 (updW_back W s v h0 F hFW)
 have HM2:=J hM2
 have HK2:=J ((KT.ext (B:=x.B) (wm:=x.wm) (kR (fun _=>False) w1).drew).trans hK2)
 have H2:=J hk2
 clear m1 m2 m3 i1 i2 hM2 hK2 hF2 hk2
 have Km:=J km
 have Ks:=J ks
 have B2:=J hb2
 have e1:=J (hF.ne_blk km)
 have e2:=J (hF.ne_blk ks)
 have e3:=J (hF.ne_blk hb2)
 clear km ks hb2 hF hFW
 refine qr3 (fun wz=>Kept (·=x.wm) w1 wz) [(0,1),(1,2),(2,2),(3,1),(4,2),(5,1),(6,0)] ?_;refine qrl ?_
 (repeat first|refine qs3 ?_|refine qt3 (Kept.drew (kR _ _)) (by intro w1 hS;have d1:=bC (bK Km.out hS e1.out);have d2:=(bK Km.out hS e1.out).lt;have d3:=bC (bK Ks.out hS e2.out);have d4:=(bK Ks.out hS e2.out).lt;have d5:=bC (bK B2.out hS e3.out);have d6:=(bK B2.out hS e3.out).lt;exact zgo) ?_|refine qp3 (Kept.drew (kR _ _)) ?_)
 refine w3_act (fun K hK=>?_)
 refine if_want' rfl ?_
 refine wp_del_run _ _ _ _ _ rfl rfl rfl hrun ?_
 refine hK.out _ _ (fun _=>(Kept.drew (kR _ _)).trans H2.out) ?_
 clear hK K hrun
 refine qf3 ?_
 go_wp2_with fail
 go_end0
 exact ⟨rfl,HM2.out,HK1.out.trans HK2.out⟩
end Go.Proofs.YtbfbabbcdochjaaGreatDoor
