import Derived.Test.YtnhelcmddjbafaaGreatDoorTaar
set_option maxHeartbeats 4000000
set_option maxRecDepth 100000
namespace Go.Proofs.YtnhelcmddjbafaaGreatDoor
open Go.ChangeShapes Go.Deep Go.RowKit Go.WideShapes
section
variable {H:Type} {enc:TypeId×Value->H} {P:Program} {w:World} {base:Nat} {spare:Nat->Bool} {held:Bool}
theorem GJ {T E} {sz fuel} {v:Value} {x:DataW H×List MemPlace} (hu:P.underlying T=some (.slice E)) (hsz:P.cellsOf E=sz) (lz:0<sz) (h:DataW.trod enc P w base spare held fuel T [v]=some x):
 ∃(A:Option Addr) (b off len cap:Nat) (tW:List (List Value)),v=.slice A len cap/\(0<len->A=some ⟨b,off,none⟩)/\tW.length=len/\(0<len->Row w b off tW.flatten)/\
  (∀cs∈tW,cs.length=sz/\∃n y,DataW.trod enc P w base spare held n E cs=some y)/\len<=cap/\cap<=maxLen:=by
 rcases open_slice hu h with⟨gu,_⟩|⟨a,len,cap,m,n,D',Pl,gu,_,hl,hm,CU,_,hi⟩
 .simp at gu
  exact⟨none,0,0,0,0,[],gu,λh=>by omega,rfl,λh=>by omega,λ_ h=>by simp at h,by omega,by simp [maxLen]⟩
 .simp at gu
  have hlm:len<=m:=by rw [CU];split<;>omega
  rw [hsz]at hi
  have Iu:∀i,∃cs,i<len->cs.length=sz/\(∃n y,DataW.trod enc P w base spare held n E cs=some y)/\∀j,j<sz->w.cell? ((a.add (i*sz)).add j)=cs[j]?:=λi=>by
   by_cases wU:i<len
   .obtain⟨cs,hc,ht⟩:=hi i ad
    obtain⟨_,jd,kL⟩:=World.cells?_some hc;exact⟨cs,λ_=>⟨jd,⟨_,_,ht⟩,kL⟩⟩
   .exact⟨[],λh=>absurd h wU⟩
  obtain⟨C,hC⟩:=Classical.axiomOfChoice Iu
  have hsp:0<len->a=⟨a.block,a.off,none⟩:=λh0=>by
   exact aip
  have hlen:∀cs∈(List.range len).map C,cs.length=sz:=λcs gu=>by
   simp at gu;obtain⟨i,wU,rfl⟩:=gu;exact(hC i wU).1
  refine⟨some a,a.block,a.off,len,cap,(List.range len).map C,gu,λh=>by rw [<-hsp h],by simp,λh0=>?_,λcs gu=>⟨hlen cs gu,?_⟩,hl,hm⟩
  .have tj:=oA _ hlen
   rw [fm,List.length_range]at tj;refine xo _ (by rw [tj];exact Nat.mul_pos h0 lz) (λj hj=>?_);rw [tj]at hj;rw [rR lz _ hlen];exact aeP
  .simp at gu
   obtain⟨i,wU,rfl⟩:=gu;exact(hC i wU).2.1
end
open Go.ChangeAt Sq Mc
set_option maxRecDepth 100000
section
variable {H:Type} {enc:TypeId×Value->H} {W:World} {base:Nat}
theorem XZ {α:Type} (f:α->Value) (P:α->Prop):∀(tW:List (List Value)),(∀cs∈tW,∃k,P k/\cs=[f k])->∃l:List α,l.length=tW.length/\(∀k∈l,P k)/\tW.flatten=l.map f
 |[],_=>⟨[],rfl,by simp,rfl⟩
 |c::r,h=>by
  obtain⟨i,hi,rfl⟩:=h c aC;obtain⟨l,hl,ho,he⟩:=XZ f P r (λcs gu=>h cs (by simp [gu]));exact⟨i::l,by simp [hl],by simp;exact⟨hi,ho⟩,by rw [List.flatten_cons,he];rfl⟩
