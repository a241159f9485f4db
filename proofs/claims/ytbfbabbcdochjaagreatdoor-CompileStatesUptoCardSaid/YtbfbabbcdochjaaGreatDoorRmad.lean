/- Several texts joined: Qa, Qb, Qc, Qd, Qe. -/
import Derived.Test.YtbfbabbcdochjaaGreatDoorRmpk
import Derived.Test.YtbfbabbcdochjaaGreatDoorRmac
set_option maxHeartbeats 4000000
set_option maxRecDepth 100000
open Go.Proofs.Tryz
namespace Go.Proofs.YtbfbabbcdochjaaGreatDoor
open Go.RowKit So
attribute [go_sem↓high] yQ
attribute [go_sem high] yQ
theorem xQ:jQ prog 66=true:=by kernel_rfl
theorem uK:sizeT prog 66=some 4:=by kernel_rfl
theorem EI {dst:Option Tmp} {ty':TypeId} {x:Operand} {pos:String} {after:Array Edge} {guard:Option (Nat×Bool)} {a:Act} {w:World} {K:Act->World->Prop} {Q:Exit->Act->World->Prop} (hx:iy (a.eval x)=true) (hh:has w (bE (a.eval x)) (bJ (a.eval x)) 4=true):
 Oper.wp prog {dst:=dst,op:=.load 66 x,type:=ty',pos:=pos,after:=after,guard:=guard} a w K Q=K (a.put dst (.agg (gets w (bE (a.eval x)) (bJ (a.eval x)) 4))) w:=dJ 4 xQ uK hx hh
theorem Md {ρ:Operand->Value} {dst:Option Tmp} {ty':TypeId} {x:Operand} {pos:String} {after:Array Edge} {guard:Option (Nat×Bool)} {w:World} (hx:iy (ρ x)=true) (hh:has w (bE (ρ x)) (bJ (ρ x)) 4=true):
 (execOp ρ {dst:=dst,op:=.load 66 x,type:=ty',pos:=pos,after:=after,guard:=guard}).run prog w=.ok (.value (.agg (gets w (bE (ρ x)) (bJ (ρ x)) 4))) w:=aZ 4 xQ uK hx hh
attribute [go_sem] xQ uK
attribute [go_sem↓high] EI Md
attribute [go_sem high] EI
theorem xR:jQ prog 109=true:=by kernel_rfl
theorem uL:sizeT prog 109=some 4:=by kernel_rfl
theorem EJ {dst:Option Tmp} {ty':TypeId} {x:Operand} {pos:String} {after:Array Edge} {guard:Option (Nat×Bool)} {a:Act} {w:World} {K:Act->World->Prop} {Q:Exit->Act->World->Prop} (hx:iy (a.eval x)=true) (hh:has w (bE (a.eval x)) (bJ (a.eval x)) 4=true):
 Oper.wp prog {dst:=dst,op:=.load 109 x,type:=ty',pos:=pos,after:=after,guard:=guard} a w K Q=K (a.put dst (.agg (gets w (bE (a.eval x)) (bJ (a.eval x)) 4))) w:=dJ 4 xR uL hx hh
theorem Me {ρ:Operand->Value} {dst:Option Tmp} {ty':TypeId} {x:Operand} {pos:String} {after:Array Edge} {guard:Option (Nat×Bool)} {w:World} (hx:iy (ρ x)=true) (hh:has w (bE (ρ x)) (bJ (ρ x)) 4=true):
 (execOp ρ {dst:=dst,op:=.load 109 x,type:=ty',pos:=pos,after:=after,guard:=guard}).run prog w=.ok (.value (.agg (gets w (bE (ρ x)) (bJ (ρ x)) 4))) w:=aZ 4 xR uL hx hh
attribute [go_sem] xR uL
attribute [go_sem↓high] EJ Me
attribute [go_sem high] EJ
theorem Dr:jQ prog 84=true:=by kernel_rfl
theorem zX:sizeT prog 84=some 4:=by kernel_rfl
theorem Ba {dst:Option Tmp} {ty':TypeId} {x:Operand} {pos:String} {after:Array Edge} {guard:Option (Nat×Bool)} {a:Act} {w:World} {K:Act->World->Prop} {Q:Exit->Act->World->Prop} (hx:iy (a.eval x)=true) (hh:has w (bE (a.eval x)) (bJ (a.eval x)) 4=true):
 Oper.wp prog {dst:=dst,op:=.load 84 x,type:=ty',pos:=pos,after:=after,guard:=guard} a w K Q=K (a.put dst (.agg (gets w (bE (a.eval x)) (bJ (a.eval x)) 4))) w:=dJ 4 Dr zX hx hh
theorem I7 {ρ:Operand->Value} {dst:Option Tmp} {ty':TypeId} {x:Operand} {pos:String} {after:Array Edge} {guard:Option (Nat×Bool)} {w:World} (hx:iy (ρ x)=true) (hh:has w (bE (ρ x)) (bJ (ρ x)) 4=true):
 (execOp ρ {dst:=dst,op:=.load 84 x,type:=ty',pos:=pos,after:=after,guard:=guard}).run prog w=.ok (.value (.agg (gets w (bE (ρ x)) (bJ (ρ x)) 4))) w:=aZ 4 Dr zX hx hh
attribute [go_sem] Dr zX
attribute [go_sem↓high] Ba I7
attribute [go_sem high] Ba
theorem Dt:jQ prog 200=true:=by kernel_rfl
theorem zY:sizeT prog 200=some 4:=by kernel_rfl
theorem Bb {dst:Option Tmp} {ty':TypeId} {x:Operand} {pos:String} {after:Array Edge} {guard:Option (Nat×Bool)} {a:Act} {w:World} {K:Act->World->Prop} {Q:Exit->Act->World->Prop} (hx:iy (a.eval x)=true) (hh:has w (bE (a.eval x)) (bJ (a.eval x)) 4=true):
 Oper.wp prog {dst:=dst,op:=.load 200 x,type:=ty',pos:=pos,after:=after,guard:=guard} a w K Q=K (a.put dst (.agg (gets w (bE (a.eval x)) (bJ (a.eval x)) 4))) w:=dJ 4 Dt zY hx hh
theorem I8 {ρ:Operand->Value} {dst:Option Tmp} {ty':TypeId} {x:Operand} {pos:String} {after:Array Edge} {guard:Option (Nat×Bool)} {w:World} (hx:iy (ρ x)=true) (hh:has w (bE (ρ x)) (bJ (ρ x)) 4=true):
 (execOp ρ {dst:=dst,op:=.load 200 x,type:=ty',pos:=pos,after:=after,guard:=guard}).run prog w=.ok (.value (.agg (gets w (bE (ρ x)) (bJ (ρ x)) 4))) w:=aZ 4 Dt zY hx hh
attribute [go_sem] Dt zY
attribute [go_sem↓high] Bb I8
attribute [go_sem high] Bb
theorem Dv:jQ prog 86=true:=by kernel_rfl
theorem z_:sizeT prog 86=some 7:=by kernel_rfl
theorem Bj {dst:Option Tmp} {ty':TypeId} {x:Operand} {pos:String} {after:Array Edge} {guard:Option (Nat×Bool)} {a:Act} {w:World} {K:Act->World->Prop} {Q:Exit->Act->World->Prop} (hx:iy (a.eval x)=true) (hh:has w (bE (a.eval x)) (bJ (a.eval x)) 7=true):
 Oper.wp prog {dst:=dst,op:=.load 86 x,type:=ty',pos:=pos,after:=after,guard:=guard} a w K Q=K (a.put dst (.agg (gets w (bE (a.eval x)) (bJ (a.eval x)) 7))) w:=dJ 7 Dv z_ hx hh
theorem JD {ρ:Operand->Value} {dst:Option Tmp} {ty':TypeId} {x:Operand} {pos:String} {after:Array Edge} {guard:Option (Nat×Bool)} {w:World} (hx:iy (ρ x)=true) (hh:has w (bE (ρ x)) (bJ (ρ x)) 7=true):
 (execOp ρ {dst:=dst,op:=.load 86 x,type:=ty',pos:=pos,after:=after,guard:=guard}).run prog w=.ok (.value (.agg (gets w (bE (ρ x)) (bJ (ρ x)) 7))) w:=aZ 7 Dv z_ hx hh
attribute [go_sem] Dv z_
attribute [go_sem↓high] Bj JD
attribute [go_sem high] Bj
theorem Dw:jQ prog 151=true:=by kernel_rfl
theorem z8:sizeT prog 151=some 7:=by kernel_rfl
theorem Bl {dst:Option Tmp} {ty':TypeId} {x:Operand} {pos:String} {after:Array Edge} {guard:Option (Nat×Bool)} {a:Act} {w:World} {K:Act->World->Prop} {Q:Exit->Act->World->Prop} (hx:iy (a.eval x)=true) (hh:has w (bE (a.eval x)) (bJ (a.eval x)) 7=true):
 Oper.wp prog {dst:=dst,op:=.load 151 x,type:=ty',pos:=pos,after:=after,guard:=guard} a w K Q=K (a.put dst (.agg (gets w (bE (a.eval x)) (bJ (a.eval x)) 7))) w:=dJ 7 Dw z8 hx hh
theorem JE {ρ:Operand->Value} {dst:Option Tmp} {ty':TypeId} {x:Operand} {pos:String} {after:Array Edge} {guard:Option (Nat×Bool)} {w:World} (hx:iy (ρ x)=true) (hh:has w (bE (ρ x)) (bJ (ρ x)) 7=true):
 (execOp ρ {dst:=dst,op:=.load 151 x,type:=ty',pos:=pos,after:=after,guard:=guard}).run prog w=.ok (.value (.agg (gets w (bE (ρ x)) (bJ (ρ x)) 7))) w:=aZ 7 Dw z8 hx hh
attribute [go_sem] Dw z8
attribute [go_sem↓high] Bl JE
attribute [go_sem high] Bl
theorem xM:jQ prog 26=true:=by kernel_rfl
theorem vE:sizeT prog 26=some 11:=by kernel_rfl
theorem Bf {dst:Option Tmp} {ty':TypeId} {x:Operand} {pos:String} {after:Array Edge} {guard:Option (Nat×Bool)} {a:Act} {w:World} {K:Act->World->Prop} {Q:Exit->Act->World->Prop} (hx:iy (a.eval x)=true) (hh:has w (bE (a.eval x)) (bJ (a.eval x)) 11=true):
 Oper.wp prog {dst:=dst,op:=.load 26 x,type:=ty',pos:=pos,after:=after,guard:=guard} a w K Q=K (a.put dst (.agg (gets w (bE (a.eval x)) (bJ (a.eval x)) 11))) w:=dJ 11 xM vE hx hh
theorem JA {ρ:Operand->Value} {dst:Option Tmp} {ty':TypeId} {x:Operand} {pos:String} {after:Array Edge} {guard:Option (Nat×Bool)} {w:World} (hx:iy (ρ x)=true) (hh:has w (bE (ρ x)) (bJ (ρ x)) 11=true):
 (execOp ρ {dst:=dst,op:=.load 26 x,type:=ty',pos:=pos,after:=after,guard:=guard}).run prog w=.ok (.value (.agg (gets w (bE (ρ x)) (bJ (ρ x)) 11))) w:=aZ 11 xM vE hx hh
attribute [go_sem] xM vE
attribute [go_sem↓high] Bf JA
attribute [go_sem high] Bf
theorem xO:jQ prog 57=true:=by kernel_rfl
theorem vF:sizeT prog 57=some 11:=by kernel_rfl
theorem Bg {dst:Option Tmp} {ty':TypeId} {x:Operand} {pos:String} {after:Array Edge} {guard:Option (Nat×Bool)} {a:Act} {w:World} {K:Act->World->Prop} {Q:Exit->Act->World->Prop} (hx:iy (a.eval x)=true) (hh:has w (bE (a.eval x)) (bJ (a.eval x)) 11=true):
 Oper.wp prog {dst:=dst,op:=.load 57 x,type:=ty',pos:=pos,after:=after,guard:=guard} a w K Q=K (a.put dst (.agg (gets w (bE (a.eval x)) (bJ (a.eval x)) 11))) w:=dJ 11 xO vF hx hh
theorem JB {ρ:Operand->Value} {dst:Option Tmp} {ty':TypeId} {x:Operand} {pos:String} {after:Array Edge} {guard:Option (Nat×Bool)} {w:World} (hx:iy (ρ x)=true) (hh:has w (bE (ρ x)) (bJ (ρ x)) 11=true):
 (execOp ρ {dst:=dst,op:=.load 57 x,type:=ty',pos:=pos,after:=after,guard:=guard}).run prog w=.ok (.value (.agg (gets w (bE (ρ x)) (bJ (ρ x)) 11))) w:=aZ 11 xO vF hx hh
attribute [go_sem] xO vF
attribute [go_sem↓high] Bg JB
attribute [go_sem high] Bg
theorem Du:jQ prog 120=true:=by kernel_rfl
theorem zZ:sizeT prog 120=some 12:=by kernel_rfl
theorem Bd {dst:Option Tmp} {ty':TypeId} {x:Operand} {pos:String} {after:Array Edge} {guard:Option (Nat×Bool)} {a:Act} {w:World} {K:Act->World->Prop} {Q:Exit->Act->World->Prop} (hx:iy (a.eval x)=true) (hh:has w (bE (a.eval x)) (bJ (a.eval x)) 12=true):
 Oper.wp prog {dst:=dst,op:=.load 120 x,type:=ty',pos:=pos,after:=after,guard:=guard} a w K Q=K (a.put dst (.agg (gets w (bE (a.eval x)) (bJ (a.eval x)) 12))) w:=dJ 12 Du zZ hx hh
theorem I9 {ρ:Operand->Value} {dst:Option Tmp} {ty':TypeId} {x:Operand} {pos:String} {after:Array Edge} {guard:Option (Nat×Bool)} {w:World} (hx:iy (ρ x)=true) (hh:has w (bE (ρ x)) (bJ (ρ x)) 12=true):
 (execOp ρ {dst:=dst,op:=.load 120 x,type:=ty',pos:=pos,after:=after,guard:=guard}).run prog w=.ok (.value (.agg (gets w (bE (ρ x)) (bJ (ρ x)) 12))) w:=aZ 12 Du zZ hx hh
attribute [go_sem] Du zZ
attribute [go_sem↓high] Bd I9
attribute [go_sem high] Bd
theorem fQ:jQ prog 60=true:=by kernel_rfl
theorem iI:sizeT prog 60=some 2:=by kernel_rfl
theorem yO {dst:Option Tmp} {ty':TypeId} {x:Operand} {pos:String} {after:Array Edge} {guard:Option (Nat×Bool)} {a:Act} {w:World} {K:Act->World->Prop} {Q:Exit->Act->World->Prop} (hx:iy (a.eval x)=true) (hh:has w (bE (a.eval x)) (bJ (a.eval x)) 2=true):
 Oper.wp prog {dst:=dst,op:=.load 60 x,type:=ty',pos:=pos,after:=after,guard:=guard} a w K Q=K (a.put dst (.agg (gets w (bE (a.eval x)) (bJ (a.eval x)) 2))) w:=dJ 2 fQ iI hx hh
theorem FQ {ρ:Operand->Value} {dst:Option Tmp} {ty':TypeId} {x:Operand} {pos:String} {after:Array Edge} {guard:Option (Nat×Bool)} {w:World} (hx:iy (ρ x)=true) (hh:has w (bE (ρ x)) (bJ (ρ x)) 2=true):
 (execOp ρ {dst:=dst,op:=.load 60 x,type:=ty',pos:=pos,after:=after,guard:=guard}).run prog w=.ok (.value (.agg (gets w (bE (ρ x)) (bJ (ρ x)) 2))) w:=aZ 2 fQ iI hx hh
attribute [go_sem] fQ iI
attribute [go_sem↓high] yO FQ
attribute [go_sem high] yO
theorem F8:jQ prog 104=true:=by kernel_rfl
theorem su:sizeT prog 104=some 2:=by kernel_rfl
theorem yP {dst:Option Tmp} {ty':TypeId} {x:Operand} {pos:String} {after:Array Edge} {guard:Option (Nat×Bool)} {a:Act} {w:World} {K:Act->World->Prop} {Q:Exit->Act->World->Prop} (hx:iy (a.eval x)=true) (hh:has w (bE (a.eval x)) (bJ (a.eval x)) 2=true):
 Oper.wp prog {dst:=dst,op:=.load 104 x,type:=ty',pos:=pos,after:=after,guard:=guard} a w K Q=K (a.put dst (.agg (gets w (bE (a.eval x)) (bJ (a.eval x)) 2))) w:=dJ 2 F8 su hx hh
attribute [go_sem] F8 su
attribute [go_sem↓high] yP
attribute [go_sem high] yP
theorem str_eq (a b:ByteArray):(ByteArray.toList a==ByteArray.toList b)=decide (a=b):=by
 rw [ByteArray.toList_eq,ByteArray.toList_eq,Bool.eq_iff_iff,beq_iff_eq,decide_eq_true_eq];exact⟨λh=>Go.WideShapes.bytes_inj h,λh=>by rw [h]⟩
theorem oG {a b:ByteArray} (h:a=b):(ByteArray.toList a==ByteArray.toList b)=true:=by rw [str_eq];exact decide_eq_true h
theorem mG {a b:ByteArray} (h:¬a=b):(ByteArray.toList a==ByteArray.toList b)=false:=by rw [str_eq];exact decide_eq_false h
theorem mP (n a b:Int) (w:World):Calls prog 121 #[.int .i64 n,.int .i64 a,.int .i64 b] w λe w'=>e=.returned (.bool (jq n a b))/\w=w':=by
 go_enter func121,ntmps121;go_wp2_with fail
 all_goals go_ret
 all_goals refine⟨aW ?_,rfl⟩
 all_goals (rw [Bool.eq_iff_iff];simp [jq];omega)
theorem rO (n a b:Int) (w:World):Calls prog 50 #[.int .i64 n,.int .i64 a,.int .i64 b] w λe w'=>e=.returned (.bool (jq n a b))/\w=w':=by
 go_enter func50,ntmps50;go_wp2_with fail
 all_goals go_ret
 all_goals refine⟨aW ?_,rfl⟩
 all_goals (rw [Bool.eq_iff_iff];simp [jq];omega)
theorem KD (n:Int):jq n (-2147483648) 2147483647=word n:=rfl
theorem nS (n:Int) (w:World):Calls prog 186 #[.int .i64 n] w λe w'=>e=.returned (.bool (word n))/\w=w':=by
 go_enter func186,ntmps186;go_wp2_with fail;refine(mP _ _ _ _).mono ?_;rintro e w1 ⟨rfl,rfl⟩;rw [KD];go_wp2_with fail;go_ret;exact⟨rfl,rfl⟩
theorem oJ (n:Int) (w:World):Calls prog 92 #[.int .i64 n] w λe w'=>e=.returned (.bool (word n))/\w=w':=by
 go_enter func92,ntmps92;go_wp2_with fail;refine(rO _ _ _ _).mono ?_;rintro e w1 ⟨rfl,rfl⟩;rw [KD];go_wp2_with fail;go_ret;exact⟨rfl,rfl⟩
theorem lD (w:World):Calls prog 52 #[] w λe w'=>e=.returned (.agg #[.int .i64 0,.string ⟨#[]⟩])/\Ext w w':=by
 go_enter func52,ntmps52;go_wp2_with fail;refine fD results52 rfl rfl fQ (by exact iI) (aH.new' _ _ _ _ aG) ⟨rfl,?_⟩;exact(kR _ w).alloc _
theorem Mr (v:Vr) (w:World):Calls prog 122 #[.agg (aJ v)] w λe w'=>e=.returned (.bool (span v))/\Ext w w':=by
 have hx:=(kR (λ_=>False) w).alloc (.cells (aJ v) 109);go_enter func122,ntmps122;go_wp2_with fail
 all_goals go_ret
 all_goals refine⟨aW ?_,hx⟩
 all_goals (rw [Bool.eq_iff_iff];simp [span,word];omega)
theorem Mj (v:Vr) (w:World):Calls prog 81 #[.agg (aJ v)] w λe w'=>e=.returned (.int .i64 (So.dD v))/\Ext w w':=by
 have hx:=(kR (λ_=>False) w).alloc (.cells (aJ v) 109);go_enter func81,ntmps81;go_wp2_with fail;refine(mP _ _ _ _).mono ?_;rintro e w1 ⟨rfl,rfl⟩
 cases hb:jq v.size 1 64
 all_goals
  go_wp2_with fail;go_ret;refine⟨b_ ?_,hx⟩;simp only [jq,Bool.and_eq_true,Bool.and_eq_false_iff,decide_eq_true_eq,decide_eq_false_iff_not]at hb;unfold So.dD
  split<;>omega
theorem zH (v:Vr) (w:World):Calls prog 68 #[.agg (aJ v)] w λe w'=>e=.returned (.int .i64 (So.dD v))/\Ext w w':=by
 have hx:=(kR (λ_=>False) w).alloc (.cells (aJ v) 66);go_enter func68,ntmps68;go_wp2_with fail
 all_goals go_ret
 all_goals refine⟨b_ ?_,hx⟩
 all_goals (unfold So.dD;split<;>omega)
theorem IU (n:Int) (w:World):Calls prog 170 #[.int .i64 n] w λe w'=>e=.returned (.int .i64 (exprParts n))/\w=w':=by
 go_enter func170,ntmps170;go_wp2_with fail
 all_goals go_ret
 all_goals refine⟨b_ ?_,rfl⟩
 all_goals (unfold exprParts;split<;>first|rfl|omega|(split<;>first|rfl|omega))
theorem Pw (k:Int) (i:Nat) (hi:i<5) (l:Bool) (w:World):Calls prog 147 #[.int .i64 k,.int .i64 i,.bool l] w λe w'=>e=.returned (.bool (stands k i l))/\w=w':=by
 rcases(by omega:i=0∨i=1∨i=2∨i=3∨i=4)with rfl|rfl|rfl|rfl|rfl
 all_goals
  go_enter func147,ntmps147;go_wp2_with fail
  all_goals go_ret
  all_goals refine⟨aW ?_,rfl⟩
  all_goals simp_all [stands]
open Go.RowKit So
theorem iP {w:World} {b o n:Nat} {cs:Array Value} (hh:Proofs.YtbfbabbcdochjaaGreatDoor.has w b o n=true) (hg:gets w b o n=cs) (i:Nat) (hi:i<n):w.cell? ⟨b,o+i,none⟩=cs[i]?:=by
 unfold Proofs.YtbfbabbcdochjaaGreatDoor.has at hh;unfold gets at hg
 split at hh
 ·rename_i c t fr hq
  rw [hq]at hg;have hfit:o+n<=c.size:=of_decide_eq_true hh;rw [cell_of_row w b _ c t fr hq,<-hg];simp only [List.getElem?_toArray];rw [List.getElem?_take,if_pos hi,List.getElem?_drop];simp
 ·cases hh
theorem nY {w:World} {b o n:Nat} {cs:Array Value} (hh:Proofs.YtbfbabbcdochjaaGreatDoor.has w b o n=true) (hg:gets w b o n=cs) (hi:0<n):w.cell? ⟨b,o,none⟩=cs[0]?:=iP hh hg 0 hi
def So.EF.All (p:EF->Prop):EF->Prop| .nil=>True| .cons _ _ _ k r=>p k/\EF.All p r
def So.SF.All (p:SF->Prop):SF->Prop| .nil=>True| .cons _ _ _ _ _ l x r=>p l/\p x/\SF.All p r
theorem Oz {C:EF->Prop} (h:∀F,EF.All C F->C F):∀F,C F/\EF.All C F
 | .nil=>⟨h _ trivial,trivial⟩
 | .cons o n s k r=>by
  have a:EF.All C (.cons o n s k r):=⟨(Oz h k).1,(Oz h r).2⟩;exact⟨h _ a,a⟩
theorem uh {C:EF->Prop} (h:∀F,EF.All C F->C F) (F:EF):C F:=(Oz h F).1
theorem JH {C:SF->Prop} (h:∀F,SF.All C F->C F):∀F,C F/\SF.All C F
 | .nil=>⟨h _ trivial,trivial⟩
 | .cons a1 a2 a3 a4 a5 l x r=>by
  have a:SF.All C (.cons a1 a2 a3 a4 a5 l x r):=⟨(JH h l).1,(JH h x).1,(JH h r).2⟩;exact⟨h _ a,a⟩
theorem sj {C:SF->Prop} (h:∀F,SF.All C F->C F) (F:SF):C F:=(JH h F).1
theorem yR (x:Int):IntKind.i64.wrap x=jW x:=by rw [IntKind.wrap_i64,fF]
theorem PD (F:EF):∀(A:Option Addr) (n c N:Nat) (w:World),g_ w N A n F->Calls prog 95 #[.slice A n c] w λe w'=>e=.returned (.int .i64 (jW F.size))/\w=w':=by
 refine uh (C:=λF=>∀(A:Option Addr) (n c N:Nat) (w:World),g_ w N A n F->Calls prog 95 #[.slice A n c] w λe w'=>e=.returned (.int .i64 (jW F.size))/\w=w') ?_ F;intro F IH A n c N w h;refine Bp ?_;clear h IH;intro b off hm HN HA HE HI;go_enter func95,ntmps95;go_wp2_with fail
 go_loopw [3,4] (λt3 t4 wr=>∃(j acc:Nat) (R:EF),j+R.len=n/\acc+R.size=F.size/\t4=.int .i64 j/\t3=.int .i64 (jW acc)/\mK w N R b (off+j*4)/\EF.All (λF=>∀(A:Option Addr) (n c N:Nat) (w:World),g_ w N A n F->Calls prog 95 #[.slice A n c] w λe w'=>e=.returned (.int .i64 (jW F.size))/\w=w') R/\w=wr) (λ_ t4 _=>n - (intOf t4).toNat)
 case atStart=>exact⟨0,0,F,by rw [HN.out,Nat.zero_add],Nat.zero_add _,rfl,by simp [fF],by simpa using HE.out,HI.out,rfl⟩
 case round=>
  obtain⟨j,acc,R,hj,hacc,rfl,rfl,hR,hI,hw⟩:=hrel;subst hw;have HR:=J hR;have HI2:=J hI;clear hR hI
  cases R with
  |nil=>
   simp only [EF.len,EF.size,Nat.add_zero]at hj hacc;subst hj;subst hacc;go_wp2_with fail;go_ret;exact⟨rfl,rfl⟩
  |cons op m name k r=>
   obtain⟨hb,h1,h2,h3,⟨A',cap,b',off',hh,hg,hl,hA',hk⟩,hr⟩:=HR.out;simp only [EF.len,EF.size]at hj hacc;have hlt:(j:Int)<n:=by omega
   obtain rfl:=HA.out aj;have hc:=iP hh hg 3 aj;have HK:=J (show g_ w N A' k.len k from⟨rfl,hl,b',off',hA',hk⟩);have HIk:=J HI2.out.1;clear hg hA' hk hl h3 h1 h2;go_wp2_with fail;refine(HIk.out _ _ _ N _ HK.out).mono ?_;rintro e w1 ⟨rfl,rfl⟩;go_wp2_with fail;go_roundw
   case rel=>exact⟨j+1,acc+(1+k.size),r,by omega,by omega,by go_num,by simp only [jm,kF];congr 2;omega,by rw [Nat.add_mul,<-Nat.add_assoc];exact hr,HI2.out.2,by trivial⟩
   case measure=>simp only [intOf];omega
open Go.RowKit So
theorem mQ {w w1:World} {p:Addr} {v:Value} (hS:Ext w w1) (hb:p.block<w.heap.size) (h:w.cell? p=some v):w1.cell? p=some v:=(Kept.cell hS hb (λf=>f)).trans h
abbrev WJ (w:World) (F:SF):Prop:=∀(A:Option Addr) (n c N:Nat) (w':World),Ext w w'->N<=w.heap.size->iO w N A n F->Calls prog 56 #[.slice A n c] w' λe w2=>e=.returned (.int .i64 (jW F.size))/\Ext w' w2
theorem PK (w0:World) (F:SF):WJ w0 F:=by
 refine sj (C:=WJ w0) ?_ F;intro F IH A n c N w hx0 hN h;refine Bp ?_;clear h IH;intro b off hm HN HA HE HI;go_enter func56,ntmps56;go_wp2_with fail
 go_loopw [3,4] (λt3 t4 wr=>∃(j acc:Nat) (R:SF),j+R.len=n/\acc+R.size=F.size/\t4=.int .i64 j/\t3=.int .i64 (jW acc)/\nk w0 N R b (off+j*7)/\SF.All (WJ w0) R/\Ext w wr) (λ_ t4 _=>n - (intOf t4).toNat)
 case atStart=>exact⟨0,0,F,by rw [HN.out,Nat.zero_add],Nat.zero_add _,rfl,by simp [fF],by simpa using HE.out,HI.out,kR _ _⟩
 case round=>
  obtain⟨j,acc,R,hj,hacc,rfl,rfl,hR,hI,hx⟩:=hrel;have HR:=J hR;have HI2:=J hI;have HX:=J hx;clear hR hI hx
  cases R with
  |nil=>
   simp only [SF.len,SF.size,Nat.add_zero]at hj hacc;subst hj;subst hacc;go_wp2_with fail;go_ret;exact⟨rfl,HX.out⟩
  |cons kind name es low high l x r=>
   obtain⟨hb,h1,h2,h3,h4,⟨eA,ec,lA,lc,xA,xc,be,oe,bl,ol,bx,ox,hh,hg,n1,n2,n3,a1,a2,a3,he,hl,Az⟩,hr⟩:=HR.out;simp only [SF.len,SF.size]at hj hacc;have hlt:(j:Int)<n:=by omega
   obtain rfl:=HA.out aj;have jN:=hx0.trans HX.out;have hbl:=jN.size;have C2:=J (mQ (p:=⟨b,_,none⟩) jN (show b<w0.heap.size by omega) (iP hh hg 2 aj));have C5:=J (mQ (p:=⟨b,_,none⟩) jN (show b<w0.heap.size by omega) (iP hh hg 5 aj));have C6:=J (mQ (p:=⟨b,_,none⟩) jN (show b<w0.heap.size by omega) (iP hh hg 6 aj));have hbw:b<wr.heap.size:=by omega
   have KE:=J (show g_ w0 N eA es.len es from⟨rfl,n1,be,oe,a1,he⟩);refine Vs ?_;intro KL KX;have IL:=J HI2.out.1;have IX:=J HI2.out.2.1;have HX0:=J jN;have HR2:=J hr;clear hh hg n1 n2 n3 a1 a2 a3 he hl Az h1 h2 h3 h4 HR hbl jN hr;go_upto_region 5 with(fail);refine gM (λw1=>Ext wr w1) [(0,2),(1,2),(2,2),(3,2),(4,2),(5,2),(6,1),(9,2),(10,2),(11,2),(12,2),(13,1),(16,2),(17,2),(18,2),(19,2),(20,1),(7,0),(8,2),(14,0),(15,2),(21,0),(22,2),(23,2)] ?_;refine gN ?_;have y0:Ext wr wr.drew:=(kR _ wr).drew
   (repeat first|refine cu ?_|refine dL y0 aeZ ?_|refine dK y0 ?_)
   (refine aC (λK hK=>?_);go_simp)
   refine(PD es _ _ _ N _ (KE.out.ext (HX0.out.trans y0) hN)).mono ?_;rintro e w1 ⟨rfl,rfl⟩;refine hK.out _ _ (λ_=>y0) ?_;clear hK K
   (repeat refine cu ?_)
   (repeat first|refine cu ?_|refine dL y0 aeZ ?_|refine dK y0 ?_)
   (refine aC (λK hK=>?_);go_simp)
   refine(IL.out _ _ _ N _ (HX0.out.trans y0) hN KL.out).mono ?_;rintro e w1 ⟨rfl,hx1⟩;have y1:=y0.trans hx1;refine hK.out _ _ (λ_=>y1) ?_;clear hK K
   (repeat refine cu ?_)
   (repeat first|refine cu ?_|refine dL y1 aeZ ?_|refine dK y1 ?_)
   (refine aC (λK hK=>?_);go_simp)
   refine(IX.out _ _ _ N _ (HX0.out.trans y1) hN KX.out).mono ?_;rintro e w2 ⟨rfl,hx2⟩;have y2:=y1.trans hx2;refine hK.out _ _ (λ_=>y2) ?_;clear hK K;refine gI ?_;go_wp2_with fail;go_roundw
   case rel=>exact⟨j+1,acc+(1+es.size+l.size+x.size),r,by omega,by omega,by go_num,by simp only [yR,jm,kF];congr 2;omega,by rw [Nat.add_mul,<-Nat.add_assoc];exact HR2.out,HI2.out.2.2,HX.out.trans y2⟩
   case measure=>simp only [intOf];omega
open Go.RowKit So
theorem nT (F:SF) (A:Option Addr) (n c N:Nat) (w:World) (hN:N<=w.heap.size) (h:iO w N A n F):Calls prog 56 #[.slice A n c] w λe w2=>e=.returned (.int .i64 (jW F.size))/\Ext w w2:=
 PK w F A n c N w (kR _ _) hN h
theorem lT.ext {w w':World} {N:Nat} {c:Pc} {p:Pr} (h:lT w N c p) (hk:Ext w w') (hN:N<=w.heap.size):lT w' N c p:=h.kept hk hN (λ_ f=>f.elim)
theorem JM {n:Nat} (h:n<=1000000000000000000):jW n=n:=by simp only [fF];omega
theorem GX (c:Pc) (p:Pr) (N:Nat) (w:World) (hN:N<=w.heap.size) (h:lT w N c p):Calls prog 41 #[.agg c.cells] w λe w'=>e=.returned (.int .i64 (jW (eT p)))/\Ext w w':=by
 refine QY ?_;intro hx0 hB;have hP:=J (h.ext hx0 hN);have hv:=Fits.max h.vars.2.1 aj;have hq:=Fits.max h.params.2.1 aj;have ev:=J h.vars.1;have eq:=J h.params.1;have vP:=Nat.le_trans hN hx0.size;clear h;go_enter func41,ntmps41;go_upto_region 1 with(fail);generalize hW:(w.alloc (.cells c.cells 26))=W at hx0 hB hP vP⊢;clear hW;generalize w.heap.size=pb at hB⊢;have hC:=J hB;refine gM (λw1=>Ext W w1) [(0,2),(1,1),(2,2),(3,2),(4,1),(5,2),(6,2),(7,2),(8,1),(11,2),(12,1),(15,2),(16,1),(19,2),(20,1),(23,2),(24,1),(9,0),(10,2),(13,0),(14,2),(17,0),(18,2),(21,0),(22,2),(25,0),(26,2),(27,2)] ?_;refine gN ?_;have y0:Ext W W.drew:=(kR _ W).drew;have bU:=J y0
 (repeat first|refine cu ?_|refine dL bU.out MK ?_|refine dK bU.out ?_)
 (refine aC (λK hK=>?_);go_simp)
 refine(nT p.start _ _ _ N _ (Nat.le_trans vP bU.out.size) (hP.out.start.ext bU.out vP)).mono ?_;refine Vy ?_;intro w1 dX;clear hK K
 (repeat refine cu ?_)
 (repeat first|refine cu ?_|refine dL dX.out MK ?_|refine dK dX.out ?_)
 (refine aC (λK hK=>?_);go_simp)
 refine(nT p.turn _ _ _ N _ (Nat.le_trans vP dX.out.size) (hP.out.turn.ext dX.out vP)).mono ?_;rintro e w2 ⟨rfl,hx1⟩;have fH:=J (dX.out.trans hx1);clear hx1;refine hK.out _ _ (λ_=>fH.out) ?_;clear hK K
 (repeat refine cu ?_)
 (repeat first|refine cu ?_|refine dL fH.out MK ?_|refine dK fH.out ?_)
 (refine aC (λK hK=>?_);go_simp)
 refine(nT p.play _ _ _ N _ (Nat.le_trans vP fH.out.size) (hP.out.play.ext fH.out vP)).mono ?_;rintro e w3 ⟨rfl,hx1⟩;have eX:=J (fH.out.trans hx1);clear hx1;refine hK.out _ _ (λ_=>eX.out) ?_;clear hK K
 (repeat refine cu ?_)
 (repeat first|refine cu ?_|refine dL eX.out MK ?_|refine dK eX.out ?_)
 (refine aC (λK hK=>?_);go_simp)
 refine(nT p.quiet _ _ _ N _ (Nat.le_trans vP eX.out.size) (hP.out.quiet.ext eX.out vP)).mono ?_;rintro e w4 ⟨rfl,hx1⟩;have o_:=J (eX.out.trans hx1);clear hx1;refine hK.out _ _ (λ_=>o_.out) ?_;clear hK K
 (repeat refine cu ?_)
 (repeat first|refine cu ?_|refine dL o_.out MK ?_|refine dK o_.out ?_)
 (refine aC (λK hK=>?_);go_simp)
 refine(nT p.pays _ _ _ N _ (Nat.le_trans vP o_.out.size) (hP.out.pays.ext o_.out vP)).mono ?_;rintro e w5 ⟨rfl,hx1⟩;have kX:=J (o_.out.trans hx1);clear hx1;refine hK.out _ _ (λ_=>kX.out) ?_;clear hK K;refine gI ?_;go_wp2_with fail;go_ret;refine⟨b_ ?_,hx0.trans kX.out⟩;simp only [yR,jm,kF,ev.out,eq.out,eT]
 congr 1
open Go.RowKit So
abbrev adR (w:World) (F:EF):Prop:=∀(A:Option Addr) (n c N:Nat) (w':World),Ext w w'->N<=w.heap.size->g_ w N A n F->Calls prog 127 #[.slice A n c] w' λe w2=>e=.returned (.int .i64 (jW F.size))/\Ext w' w2
theorem Mv (w0:World) (F:EF):adR w0 F:=by
 refine uh (C:=adR w0) ?_ F;intro F IH A n c N w hx0 hN h;refine Bp ?_;clear h IH;intro b off hm HN HA HE HI;go_enter func127,ntmps127;go_wp2_with fail
 go_loopw [3,10] (λt3 t10 wr=>∃(j acc:Nat) (R:EF),j+R.len=n/\acc+Gw R=F.size/\t10=.int .i64 j/\t3=.int .i64 (jW acc)/\mK w0 N R b (off+j*4)/\EF.All (adR w0) R/\Ext w wr) (λ_ t10 _=>n - (intOf t10).toNat)
 case atStart=>exact⟨0,n,F,by rw [HN.out,Nat.zero_add],by rw [HN.out,Ez],rfl,by rw [JM aj],by simpa using HE.out,HI.out,kR _ _⟩
 case round=>
  obtain⟨j,acc,R,hj,hacc,rfl,rfl,hR,hI,hx⟩:=hrel;have HR:=J hR;have HI2:=J hI;have HX:=J hx;clear hR hI hx
  cases R with
  |nil=>
   simp only [EF.len,Gw,Nat.add_zero]at hj hacc;subst hj;subst hacc;go_wp2_with fail;go_ret;exact⟨rfl,HX.out⟩
  |cons op m name k r=>
   obtain⟨hb,h1,h2,h3,⟨A',cap,b',off',hh,hg,hl,hA',hk⟩,hr⟩:=HR.out;simp only [EF.len,Gw]at hj hacc;have hlt:(j:Int)<n:=by omega
   obtain rfl:=HA.out aj;have jN:=hx0.trans HX.out;refine FY ?_;intro hbl hh' hg' hbw;have KE:=J (show g_ w0 N A' k.len k from⟨rfl,hl,b',off',hA',hk⟩);have IK:=J HI2.out.1;have HX0:=J jN;have HR2:=J hr;clear hh hg hl hA' hk h1 h2 h3 HR hbl jN hr;go_wp2_with fail;have y0:Ext wr _:=(kR _ wr).alloc (.cells (aI op m name A' k.len cap) 200);refine(IK.out _ _ _ N _ (HX0.out.trans y0) hN KE.out).mono ?_;rintro e w2 ⟨rfl,hx2⟩;go_wp2_with fail;go_roundw
   case rel=>exact⟨j+1,acc+k.size,r,by omega,by omega,by go_num,by simp only [jm,kF];congr 2,by rw [Nat.add_mul,<-Nat.add_assoc];exact HR2.out,HI2.out.2,HX.out.trans (y0.trans hx2)⟩
   case measure=>simp only [intOf];omega
abbrev adS (w:World) (F:SF):Prop:=∀(A:Option Addr) (n c N:Nat) (w':World),Ext w w'->N<=w.heap.size->iO w N A n F->Calls prog 80 #[.slice A n c] w' λe w2=>e=.returned (.int .i64 (jW F.size))/\Ext w' w2
theorem Mt (w0:World) (F:SF):adS w0 F:=by
 refine sj (C:=adS w0) ?_ F;intro F IH A n c N w hx0 hN h;refine Bp ?_;clear h IH;intro b off hm HN HA HE HI;go_enter func80,ntmps80;go_wp2_with fail
 go_loopw [3,10] (λt3 t10 wr=>∃(j acc:Nat) (R:SF),j+R.len=n/\acc+Gx R=F.size/\t10=.int .i64 j/\t3=.int .i64 (jW acc)/\nk w0 N R b (off+j*7)/\SF.All (adS w0) R/\Ext w wr) (λ_ t10 _=>n - (intOf t10).toNat)
 case atStart=>exact⟨0,n,F,by rw [HN.out,Nat.zero_add],by rw [HN.out,EA],rfl,by rw [JM aj],by simpa using HE.out,HI.out,kR _ _⟩
 case round=>
  obtain⟨j,acc,R,hj,hacc,rfl,rfl,hR,hI,hx⟩:=hrel;have HR:=J hR;have HI2:=J hI;have HX:=J hx;clear hR hI hx
  cases R with
  |nil=>
   simp only [SF.len,Gx,Nat.add_zero]at hj hacc;subst hj;subst hacc;go_wp2_with fail;go_ret;exact⟨rfl,HX.out⟩
  |cons kind name es low high l x r=>
   obtain⟨hb,h1,h2,h3,h4,⟨eA,ec,lA,lc,xA,xc,be,oe,bl,ol,bx,ox,hh,hg,n1,n2,n3,a1,a2,a3,he,hl,Az⟩,hr⟩:=HR.out;simp only [SF.len,Gx]at hj hacc;have hlt:(j:Int)<n:=by omega
   obtain rfl:=HA.out aj;have jN:=hx0.trans HX.out;refine FY ?_;intro hbl hh' hg' hbw;have KE:=J (show g_ w0 N eA es.len es from⟨rfl,n1,be,oe,a1,he⟩);refine Vs ?_;intro KL KX;have IL:=J HI2.out.1;have IX:=J HI2.out.2.1;have HX0:=J jN;have HR2:=J hr;clear hh hg n1 n2 n3 a1 a2 a3 he hl Az h1 h2 h3 h4 HR hbl jN hr;go_upto_region 5 with(fail);have y0:Ext wr _:=(kR _ wr).alloc (.cells (aB kind name eA es.len ec low high lA l.len lc xA x.len xc) 151);have hB:=bN wr 151 (aB kind name eA es.len ec low high lA l.len lc xA x.len xc);generalize hW:(wr.alloc (.cells (aB kind name eA es.len ec low high lA l.len lc xA x.len xc) 151))=W at y0 hB⊢;clear hW hh' hg';generalize wr.heap.size=pb at hB⊢;have hC:=J hB;have eH:=J (HX0.out.trans y0);have HXr:=J (HX.out.trans y0);clear HX y0;refine gM (λw1=>Ext W w1) [(0,2),(1,2),(2,1),(4,2),(5,1),(8,2),(9,1),(3,0),(6,0),(7,2),(10,0),(11,2),(12,2),(13,2)] ?_;refine gN ?_;refine ET ?_;intro bU
   (repeat first|refine cu ?_|refine dL bU.out MK ?_|refine dK bU.out ?_)
   (refine aC (λK hK=>?_);go_simp)
   refine(Mv w0 es _ _ _ N _ (eH.out.trans bU.out) hN KE.out).mono ?_;refine Vy ?_;intro w1 dX;clear hK K
   (repeat refine cu ?_)
   (repeat first|refine cu ?_|refine dL dX.out MK ?_|refine dK dX.out ?_)
   (refine aC (λK hK=>?_);go_simp)
   refine(IL.out _ _ _ N _ (eH.out.trans dX.out) hN KL.out).mono ?_;rintro e w2 ⟨rfl,hx1⟩;have fH:=J (dX.out.trans hx1);clear hx1;refine hK.out _ _ (λ_=>fH.out) ?_;clear hK K
   (repeat refine cu ?_)
   (repeat first|refine cu ?_|refine dL fH.out MK ?_|refine dK fH.out ?_)
   (refine aC (λK hK=>?_);go_simp)
   refine(IX.out _ _ _ N _ (eH.out.trans fH.out) hN KX.out).mono ?_;rintro e w3 ⟨rfl,hx1⟩;have eX:=J (fH.out.trans hx1);clear hx1;refine hK.out _ _ (λ_=>eX.out) ?_;clear hK K;refine gI ?_;go_wp2_with fail;go_roundw
   case rel=>exact⟨j+1,acc+(es.size+l.size+x.size),r,by omega,by omega,by go_num,by simp only [yR,jm,kF];congr 2,by rw [Nat.add_mul,<-Nat.add_assoc];exact HR2.out,HI2.out.2.2,HXr.out.trans eX.out⟩
   case measure=>simp only [intOf];omega
theorem oH (F:SF) (A:Option Addr) (n c N:Nat) (w:World) (hN:N<=w.heap.size) (h:iO w N A n F):Calls prog 80 #[.slice A n c] w λe w2=>e=.returned (.int .i64 (jW F.size))/\Ext w w2:=
 Mt w F A n c N w (kR _ _) hN h
end Go.Proofs.YtbfbabbcdochjaaGreatDoor
