import Derived.Test.YtnhelcmddjbafaaGreatDoorTcp
import Derived.Test.YtnhelcmddjbafaaGreatDoorTpas
namespace Go.Proofs.YtnhelcmddjbafaaGreatDoor.trialPacks
open Go.ChangeShapes Go.WideShapes Go.ChangeAt Go.RowKit
theorem own:ownKnob Tryz.prog.godebug=none:=by kernel_rfl
theorem laidOut:laidOutB Tryz.prog=true:=by kernel_rfl
set_option maxRecDepth 100000 in
theorem contract (H:Type) (enc:TypeId × Value->H) (W:World) (base:Nat) (args:Array Value) (ds gs:List (DataW H)) (before:List MemPlace)
  (hval:∀ (j:Nat) t v,Tryz.f8.params[j]?=some t->args[j]?=some v->Value.okWide Tryz.prog W .any base t v)
  (hW:DataW.Whole enc Tryz.prog Tryz.f8.params.toList Rows.trialPacksSpec.vars false W args.toList ds gs before) (_hL:laidMetH Tryz.prog Rows.trialPacksRow.laid W) (hsz0:(DataW.weightsEach Tryz.prog (Tryz.f8.params.toList ++ (OpenSpec.ofChange Rows.trialPacksSpec).bare.plain.varTypes Tryz.prog) (ds ++ gs)).all (·<=reachBytes)=true) (hshape:W.ShapedOpen Tryz.prog) :
  Calls Tryz.prog 8 args W fun e W'=>∃ v,e=.returned v/\Rows.trialPacksSpec.post enc Tryz.prog Tryz.f8 false true false false W args v W':=by
 have hW':=hW
 obtain ⟨p,q,hA0,hV,rfl,hfz,hnd⟩:=hW
 have hA:DataW.TrodAll enc Tryz.prog W 0 (fun _=>true) true Tryz.f8.params.toList args.toList ds p:=hA0
 rw [Tryz.params8] at hA hval
 obtain ⟨v0,vs0,d0,ds0,p0,q0,hargs,rfl,rfl,h0,r0⟩:=trodAll_cons hA
 obtain ⟨v1,vs1,d1,ds1,p1,q1,rfl,rfl,rfl,h1,r1⟩:=trodAll_cons r0
 obtain ⟨rfl,rfl,rfl⟩:=trodAll_nil r1
 obtain rfl:args=#[v0,v1]:=by cases args;simp_all
 obtain ⟨rfl,rfl⟩:=trodVars_none hV
 have lt0:∀ x ∈ p0,x.block<W.heap.size:=by obtain ⟨m,hm⟩:=h0;exact DataW.trod_lt m _ _ _ hm
 have lt1:∀ x ∈ p1,x.block<W.heap.size:=by obtain ⟨m,hm⟩:=h1;exact DataW.trod_lt m _ _ _ hm
 have hwalk:=walk W base v0 v1 _ _ _ _ (hval 0 47 v0 rfl rfl) (hval 1 89 v1 rfl rfl) h0 h1 _hL (light_each hsz0 0 47 d0 rfl rfl) (light_each hsz0 1 89 d1 rfl rfl) hshape
 clear hA0
 refine hwalk.mono fun e W' ⟨he,hk⟩=>?_
 have bel:=hk.below
 subst he
 exact ⟨_,rfl,_,_,_,[],_,[],hW',trodAll_mk1 (shut_bool Tryz.underlying4 _),(trodAll_cons_mk (Below.trod laidOut (by kernel_rfl) (of_decide_eq_true (by kernel_rfl)) h0 bel lt0) (trodAll_cons_mk (Below.trod laidOut (by kernel_rfl) (of_decide_eq_true (by kernel_rfl)) h1 bel lt1) trodAll_mk0)),rfl,bel.frame _,fun h=>by cases h⟩
def tU (k:IntKind) (l:List Int):Array Value:=(l.map (.int k)).toArray
def tV (l:List (List UInt8)):Array Value:=(l.map fun x=>.string ⟨x.toArray⟩).toArray
noncomputable def tW (os:Os):World:=World.holding Tryz.prog os ⟨#[.cells (Lib.whiteT.map fun (z:Nat)=>Value.int .u16 (z:Int)).toArray 425,.cells #[.slice (some ⟨(World.settled Tryz.prog os).heap.size,0,none⟩) 7 7,.slice none 0 0,.int .i64 2] 423],#[],[]⟩
def layAt (n:Nat) (cs:Array Value) (h:Array Obj):Array Obj:=h.modify n fun | .cells _ t frozen=>.cells cs t frozen | o=>o
noncomputable def laidWorld (os:Os):World :=
 { (tW os) with heap:=(layAt 5 (tU .i64 [0,0,1,1,1,2,2,2,2,2,2,2,2,2,2,2,2,2]) (layAt 2 (tU .i64 [1,2,1,0,0,0,1,0,2,1]) (layAt 0 (tV [[104,97,108,116],[110],[115,101,116],[119,110],[109,111,118,101],[119,119],[97,100,100],[119,119,119],[115,117,98],[119,119,119],[109,117,108],[119,119,119],[100,105,118],[119,119,119],[114,101,109],[119,119,119],[101,113],[119,119,119],[110,101],[119,119,119],[108,116],[119,119,119],[108,101],[119,119,119],[97,110,100],[119,119,119],[111,114],[119,119,119],[110,111,116],[119,119],[108,111,97,100],[119,119,119],[115,116,111,114,101],[119,119,119],[99,117,116],[119,110,110],[119,105,116,104,105,110],[119,119,110],[106,117,109,112],[112],[106,122],[112,119],[106,110,122],[112,119]]) (layAt 1 (tU .u8 ([0,0,0,0,0,0,0,0,0,1,1,1,1,1]++List.replicate 18 0++[1]++List.replicate 223 0)) (layAt 4 #[.pointer (some ⟨(World.settled Tryz.prog os).heap.size+1,0,none⟩)] (layAt 3 (tU .u64 [1,10,100,1000,10000,100000,1000000,10000000,100000000,1000000000,10000000000,100000000000,1000000000000,10000000000000,100000000000000,1000000000000000,10000000000000000,100000000000000000,1000000000000000000,10000000000000000000]) (layAt 7 (tU .u8 [0,1,56,2,57,49,28,3,61,58,42,50,38,29,17,4,62,47,59,36,45,43,51,22,53,39,33,30,24,18,12,5,63,55,48,27,60,41,37,16,46,35,44,21,52,32,23,11,54,26,40,15,34,20,31,10,25,14,19,9,13,8,7,6]) (layAt 6 (tU .u8 [0,1,28,2,29,14,24,3,30,22,20,15,25,17,4,8,31,27,13,23,21,19,16,7,26,12,18,6,11,5,10,9]) ((tW os).heap))))))))) }
theorem laid_met (os:Os):laidMet Tryz.prog Rows.trialPacksRow.laid ((laidWorld os).forCall (fun _ _=>0) ⟨#[],#[.agg #[.int .i64 0,.slice none 0 0,.int .i64 0],.slice none 0 0],[]⟩).memory :=
 laidMet_of_run3 10 (by kernel_rfl) (by kernel_rfl) (by kernel_rfl)
theorem reads (os:Os) {H:Type} (enc:TypeId × Value->H):∃ places,DataW.whole enc Tryz.prog ((laidWorld os).forCall (fun _ _=>0) ⟨#[],#[.agg #[.int .i64 0,.slice none 0 0,.int .i64 0],.slice none 0 0],[]⟩).memory Tryz.f8.params.toList Rows.trialPacksSpec.vars false (#[.agg #[.int .i64 0,.slice none 0 0,.int .i64 0],.slice none 0 0]:Array Value).toList 8=some ([.agg [.lit (.int .i64 0),.nil,.lit (.int .i64 0)],.nil],[],places) :=
 ⟨[],by kernel_rfl⟩
set_option maxRecDepth 100000 in
theorem lifted (os:Os) (started:os.Started) (H:Type) (enc:TypeId × Value->H) (F:Stop.Interp) :
  ReturnsInHanded {} Tryz.checked os 8 .any ((OpenSpec.ofChange Rows.trialPacksSpec).preRow enc Tryz.prog Tryz.f8 Rows.trialPacksRow.domain false Rows.trialPacksRow.laid) (((OpenSpec.ofChange Rows.trialPacksSpec).at F).post enc Tryz.prog Tryz.f8 false true false false):=by
 obtain ⟨places,hx⟩:=reads os enc
 refine returnsInHanded_of_row (C:=Tryz.checked) (s:=OpenSpec.ofChange Rows.trialPacksSpec) own started (by kernel_rfl) Tryz.func8
  (by
  obtain ⟨w,tape,i,h1,h2,h3,h4,h5,h6,_⟩:=OpenSpec.witness_stopped_atRef (enc:=enc) (C:=Tryz.checked) (fn:=Tryz.f8) (s:=OpenSpec.ofChange Rows.trialPacksSpec) (conds:=Rows.trialPacksRow.domain) (apart:=false) (laid:=Rows.trialPacksRow.laid) false (laidWorld os) #[.agg #[.int .i64 0,.slice none 0 0,.int .i64 0],.slice none 0 0] rfl (by kernel_rfl) (by kernel_rfl) (by kernel_rfl)
   (OpenSpec.preRow_of_cond 8 hx (by kernel_rfl) (fun k hk=>by cases hk) (by kernel_rfl) (laid_met os)) (fun _ _ _=>0)
  exact ⟨w,tape,i,h1,h2,h3,h4,h5,h6⟩) ?_
 intro W base args ds gs before hval hW _ _ hsz hL hshape _
 exact contract H enc W base args ds gs before hval hW hL hsz hshape
theorem said:Rows.TrialPacksSaid :=
 OpenClaim.holds_of_cond 8 Tryz.f8 rfl rfl rfl rfl rfl rfl rfl ⟨rfl,rfl,rfl,rfl,rfl⟩ rfl rfl rfl rfl rfl (by kernel_rfl) Tryz.func8 clo
  (of_decide_eq_true (by kernel_rfl)) (by unfold Func.isWrapper;first | (rw [if_pos (by decide +kernel)];kernel_rfl) | (rw [if_neg (by decide +kernel)];exact ⟨rfl,rfl⟩))
  (fun os started H enc _ F=>by rw [OpenClaim.pre_eq_preRow];exact lifted os started H enc F)
theorem plain (f : FuncId) (fn : Func) (hf : Tryz.pinned.checked.prog.funcNamed "baize/baizelaw36.TrialPacks" = some f) (hfn : Tryz.pinned.checked.prog.funcs[f]? = some fn) :
  true=Tryz.pinned.checked.prog.looks []/\∀ (j:Nat) t,fn.params[j]?=some t->Tryz.pinned.checked.prog.wantsStandIn t=false:=by
 obtain rfl : f = 8 := Option.some.inj ((show Tryz.prog.funcNamed "baize/baizelaw36.TrialPacks" = some 8 by kernel_rfl).symm.trans hf) |>.symm
 obtain rfl:fn=Tryz.f8:=(Option.some.inj (Tryz.func8.symm.trans hfn)).symm
 refine ⟨by kernel_rfl,fun j t ht=>?_⟩
 rw [Tryz.params8] at ht
 have hm:=Array.mem_of_getElem? ht
 have hall:∀ t ∈ (#[47,89]:Array TypeId),Tryz.prog.wantsStandIn t=false:=by
  intro t ht
  simp at ht
  rcases ht with rfl | rfl <;> kernel_rfl
 exact hall t hm
theorem card:Rows.TrialPacksCardSaid :=
 Claim7.holds_tied_plain_at .later [] _ _ _ _ said (fun _ h=>by cases h) (by kernel_rfl) (fun _ h=>by cases h) trialPacks_row_tie rfl ⟨rfl,rfl⟩ (by kernel_rfl) rfl plain (by kernel_rfl)
#print axioms card
end Go.Proofs.YtnhelcmddjbafaaGreatDoor.trialPacks
