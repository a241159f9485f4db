import Derived.Test.YtnhelcmddjbafaaGreatDoorTaar
set_option maxHeartbeats 4000000
set_option maxRecDepth 100000
open Go.Proofs.Tryz
namespace Go.Proofs.YtnhelcmddjbafaaGreatDoor
open Go.ChangeAt Go.ChangeShapes Go.Deep Go.RowKit Go.WideShapes Mc Sq
set_option maxRecDepth 100000
section
variable {H:Type} {enc:TypeId×Value->H} {W:World} {base:Nat}
theorem wX {v} {d} {p} (o:Value.okWide prog W .any base 3 v) (h:DataW.Trod enc prog W 0 (λ_=>true) true 3 v d p):∃n,v=.int .i64 n/\aI n:=by
 obtain⟨n,rfl⟩:∃n,v=.int .i64 n:=by
  cases v<;>simp_all [Value.okWide,Cell.okWide,Cell.ok,underlying3]
 obtain⟨fuel,h⟩:=h;obtain⟨k,e,_,wf⟩:=DataW.trod_int underlying3 h;have e:n=k:=by simpa [Value.cells]using e
 subst e;exact⟨n,rfl,by simpa [Lit.wf,IntKind.min,IntKind.max,IntKind.signed,IntKind.bits,aI]using wf⟩
