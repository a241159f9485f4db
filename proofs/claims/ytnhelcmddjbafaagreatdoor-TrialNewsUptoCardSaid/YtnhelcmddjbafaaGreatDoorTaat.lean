import Derived.ChangeMaps5
import Derived.Test.YtnhelcmddjbafaaGreatDoorTaar
set_option maxHeartbeats 4000000
set_option maxRecDepth 100000
open Go.Proofs.Tryz
namespace Go.Proofs.YtnhelcmddjbafaaGreatDoor
open Go.RowKit
section
open Go.Deep Go.ChangeShapes Go.WideShapes Sq
variable{fuel:Nat}{ps:List MemPlace}
section
variable {H:Type} {enc:TypeId×Value->H} {P:Program} {w:World} {base:Nat} {held:Bool}
theorem yM {E:TypeId}:∀{l:List (DataW H)} (_:(DataW.weightsAll P E l).all (·<=reachBytes)=true),∀d∈l,light P E d
 |[],_,d,hd=>absurd hd aC
 |x::l,h,d,hd=>by
  rw [DataW.weightsAll,List.all_append,fz]at h
  rcases List.mem_cons.1 hd with rfl|hd
  .exact h.1
  .exact yM h.2 d hd
theorem PA {T E:TypeId} {sz:Nat} {v:Value} {d:DataW H} (hu:P.underlying T=some (.slice E)) (hsz:P.cellsOf E=sz) (lz:0<sz) (h:DataW.trod enc P w base (λ_=>true) held fuel T [v]=some (d,ps)) (hw:light P T d):
 ∃(A:Option Addr) (b off len cap:Nat) (tW:List (List Value)),v=.slice A len cap/\(0<len->A=some ⟨b,off,none⟩)/\tW.length=len/\(0<len->Row w b off tW.flatten)/\
  (∀cs∈tW,cs.length=sz/\∃n d' JP,n<fuel/\DataW.trod enc P w base (λ_=>true) held n E cs=some (d',JP)/\light P E d')/\len*P.bytesOf E<=reachBytes:=by
 rcases DataW.trod_slice hu h with⟨gu,_⟩|⟨a,len,cap,elems,rest,n,hfu,gu,hx,_,hl,hm,hlen,Iv,hsp,_⟩
 .simp at gu
  exact⟨none,0,0,0,0,[],gu,λh=>by omega,rfl,λh=>by omega,λ_ h=>by simp at h,by omega⟩
 .simp at gu
  obtain⟨hd,-⟩:=Prod.mk.inj hx;subst hd;unfold light at hw;rw [DataW.weights]at hw;simp only [hu,List.all_cons,List.all_append,fz,gZ,fm]at hw;obtain⟨mO,rB,-⟩:=hw;have T3:=yM rB;rw [hsz]at Iv
  have Iu:∀i,∃cs,i<len->cs.length=sz/\(∃n d' JP,n<fuel/\DataW.trod enc P w base (λ_=>true) held n E cs=some (d',JP)/\light P E d')/\∀j,j<sz->w.cell? ((a.add (i*sz)).add j)=cs[j]?:=λi=>by
   by_cases wU:i<len
   .have he:=Iv i wU
    rw [List.getElem?_eq_getElem ad,Option.bind_eq_some_iff]at he;obtain⟨cs,hc,ht⟩:=he;obtain⟨_,jd,kL⟩:=World.cells?_some hc;exact⟨cs,λ_=>⟨jd,⟨n,elems[i].1,elems[i].2,by omega,ht,T3 _ (List.mem_map.2 ⟨elems[i],cK _,rfl⟩)⟩,kL⟩⟩
   .exact⟨[],λh=>absurd h wU⟩
  obtain⟨C,hC⟩:=Classical.axiomOfChoice Iu
  have hsp:0<len->a=⟨a.block,a.off,none⟩:=λh0=>by
   exact aip
  have KZ:∀cs∈(List.range len).map C,cs.length=sz:=λcs gu=>by
   simp at gu;obtain⟨i,wU,rfl⟩:=gu;exact(hC i wU).1
  refine⟨some a,a.block,a.off,len,cap,(List.range len).map C,gu,λh=>by rw [<-hsp h],by simp,λh0=>?_,λcs gu=>⟨KZ cs gu,?_⟩,?_⟩
  .have tj:=oA _ KZ
   exact ann
  .simp at gu
   obtain⟨i,wU,rfl⟩:=gu;exact(hC i wU).2.1
  .refine ay (Nat.mul_le_mul_right _ ?_) mO
   omega
theorem TF {fs} {t} {cs} {d} (hu:P.underlying t=some (.struct fs)) (h:DataW.trod enc P w base (λ_=>true) held fuel t cs=some (d,ps)) (hw:light P t d):
 ∃n,fuel=n+1/\cs.length=P.cellsOf t/\∀(i:Nat) (f:Field),fs[i]?=some f->∃d' JP,DataW.trod enc P w base (λ_=>true) held n f.type ((cs.drop f.offset).take (P.cellsOf f.type))=some (d',JP)/\light P f.type d':=by
 obtain⟨xs,n,hfu,hx,hl,o_,hf⟩:=DataW.trod_struct hu h;obtain⟨hd,-⟩:=Prod.mk.inj hx;subst hd;unfold light at hw;rw [DataW.weights]at hw;simp only [hu]at hw;refine⟨n,hfu,hl,λi f hif=>?_⟩
 have aX:i<xs.length:=by
  rw [o_];exact(Array.getElem?_eq_some_iff.1 hif).1
 have h1:=hf i f hif;rw [List.getElem?_eq_getElem aX]at h1;refine⟨xs[i].1,xs[i].2,h1,light_each hw i f.type xs[i].1 ?_ ?_⟩
 .rw [List.getElem?_map,Array.getElem?_toList,hif];rfl
 .rw [List.getElem?_map,List.getElem?_eq_getElem aX];rfl
end
theorem Row.tail {w} {b off} {c r} (h:Row w b off (c++r)):Row w b (off+c.length) r:=by
 obtain⟨h1,h2⟩:=h.sub c.length r.length aC;refine⟨h1,h2.trans ?_,h.lt⟩;rw [List.drop_left,lf]
theorem lQ {n} (h:Lit.wf (.int .i64 n)=true):aI n:=by
 simpa [Lit.wf,IntKind.min,IntKind.max,IntKind.signed,IntKind.bits,aI]using h
section
variable {H:Type} {enc:TypeId×Value->H} {w:World} {base:Nat} {held:Bool}
theorem jf:prog.cellsOf 3=1:=by kernel_rfl
theorem rK:prog.cellsOf 9=1:=by kernel_rfl
theorem Kh:prog.cellsOf 219=1:=by kernel_rfl
theorem iG:prog.cellsOf 37=1:=by kernel_rfl
theorem wG:prog.cellsOf 36=1:=by kernel_rfl
theorem XB:prog.cellsOf 35=1:=by kernel_rfl
theorem aga:prog.cellsOf 221=4:=by kernel_rfl
theorem agb:prog.cellsOf 223=7:=by kernel_rfl
theorem abx:prog.cellsOf 174=4:=by kernel_rfl
theorem XA:prog.cellsOf 39=11:=by kernel_rfl
theorem afN:prog.bytesOf 221=56:=by kernel_rfl
theorem afP:prog.bytesOf 174=40:=by kernel_rfl
theorem afO:prog.bytesOf 3=8:=by kernel_rfl
abbrev Trd (w:World) (base:Nat) (held:Bool) (enc:TypeId×Value->H) (fuel:Nat) (t:TypeId) (cs:List Value) (d:DataW H) (ps:List MemPlace):Prop:=DataW.trod enc prog w base (λ_=>true) held fuel t cs=some (d,ps)/\light prog t d
theorem Gq:∀(tW:List (List Value)),(∀cs∈tW,∃n:Int,aI n/\cs=[.int .i64 n])->∃l:List Int,l.length=tW.length/\(∀i∈l,aI i)/\tW.flatten=l.map (Value.int .i64)
 |[],_=>⟨[],rfl,by simp,rfl⟩
 |c::r,h=>by
  obtain⟨i,hi,rfl⟩:=h c aC;obtain⟨l,hl,ho,he⟩:=Gq r (λcs gu=>h cs (by simp [gu]));exact⟨i::l,by simp [hl],by simp;exact⟨hi,ho⟩,by rw [List.flatten_cons,he];rfl⟩
theorem acd {v} {d} (hh:Trd w base held enc fuel 35 [v] d ps):∃A n cap l,v=.slice A n cap/\VX w w.heap.size A n l:=by
 obtain⟨h,hw⟩:=hh;obtain⟨A,b,off,len,cap,tW,rfl,hA,hl,hr,hc,hb⟩:=PA underlying35 jf ad h hw
 obtain⟨l,hll,ho,he⟩:=Gq tW (λcs gu=>by
  obtain⟨jd,n,d',JP,aX,ht,K9⟩:=hc cs gu;obtain⟨k,e,_,wf⟩:=DataW.trod_int underlying3 ht;exact⟨k,lQ wf,e⟩)
 rw [afO]at hb;exact⟨A,len,cap,l,rfl,by omega,by unfold Fits;unfold reachBytes at hb;omega,ho,b,off,hA,λh0=>⟨(hr h0).lt,he▸hr h0⟩⟩
end
end
namespace Sq
open Mc
theorem Seg.tail {c} {pc} {i} {l:List Ins} (h:Seg c pc (i::l)):Seg c (pc+1) l:=by
 have:=Seg.right (a:=[i]) (b:=l) h
 simpa using this
end Sq
section
open Go.Deep Go.ChangeShapes Go.WideShapes Sq
variable{fuel:Nat}{ps:List MemPlace}{fs:Array Field}
section
variable {H:Type} {enc:TypeId×Value->H} {P:Program} {w:World} {base:Nat} {held:Bool}
theorem j_ {T E} {A} {n cap} {d} (hu:P.underlying T=some (.slice E)) (h:DataW.trod enc P w base (λ_=>true) held fuel T [.slice A n cap]=some (d,ps)) (hw:light P T d):
 n<=cap/\(A=none->cap=0)/\n*P.bytesOf E<=reachBytes:=by
 rcases DataW.trod_slice hu h with⟨gu,_⟩|⟨a,len,eD,elems,rest,m,hfu,gu,hx,_,hl,hm,hlen,Iv,hsp,_⟩
 .simp only [List.cons.injEq,Value.slice.injEq,and_true]at gu
  obtain⟨rfl,rfl,rfl⟩:=gu;exact⟨eH _,λ_=>rfl,by simp⟩
 .simp only [List.cons.injEq,Value.slice.injEq,and_true]at gu
  obtain⟨rfl,rfl,rfl⟩:=gu;obtain⟨hd,-⟩:=Prod.mk.inj hx;subst hd;unfold light at hw;rw [DataW.weights]at hw;simp only [hu,List.all_cons,fz,gZ,fm]at hw;refine⟨hl,(λe=>nomatch e),ay (Nat.mul_le_mul_right _ ?_) hw.1⟩
  omega
end
section
variable {H:Type} {enc:TypeId×Value->H} {w:World} {base:Nat} {held:Bool}
theorem abu {c} {d} (hh:Trd w base held enc fuel 39 c.cells.toList d ps):Ho c/\Roomy c 2:=by
 obtain⟨h,hw⟩:=hh;obtain⟨m,rfl,jd,hf⟩:=TF underlying39 h hw;obtain⟨d3,p3,k3,l3⟩:=hf 3 _ rfl;have k3:DataW.trod enc prog w base (λ_=>true) held m 36 ((c.cells.toList.drop 3).take (prog.cellsOf 36))=some (d3,p3):=k3;rw [wG]at k3;have l3:light prog 36 d3:=l3;obtain⟨d4,p4,k4,l4⟩:=hf 4 _ rfl;have k4:DataW.trod enc prog w base (λ_=>true) held m 37 ((c.cells.toList.drop 4).take (prog.cellsOf 37))=some (d4,p4):=k4;rw [iG]at k4;have l4:light prog 37 d4:=l4;obtain⟨d5,p5,k5,l5⟩:=hf 5 _ rfl;have k5:DataW.trod enc prog w base (λ_=>true) held m 37 ((c.cells.toList.drop 5).take (prog.cellsOf 37))=some (d5,p5):=k5;rw [iG]at k5;have l5:light prog 37 d5:=l5;obtain⟨d6,p6,k6,l6⟩:=hf 6 _ rfl;have k6:DataW.trod enc prog w base (λ_=>true) held m 36 ((c.cells.toList.drop 6).take (prog.cellsOf 36))=some (d6,p6):=k6;rw [wG]at k6;have l6:light prog 36 d6:=l6;obtain⟨d7,p7,k7,l7⟩:=hf 7 _ rfl;have k7:DataW.trod enc prog w base (λ_=>true) held m 37 ((c.cells.toList.drop 7).take (prog.cellsOf 37))=some (d7,p7):=k7;rw [iG]at k7;have l7:light prog 37 d7:=l7;obtain⟨d9,p9,k9,l9⟩:=hf 9 _ rfl;have k9:DataW.trod enc prog w base (λ_=>true) held m 37 ((c.cells.toList.drop 9).take (prog.cellsOf 37))=some (d9,p9):=k9;rw [iG]at k9;have l9:light prog 37 d9:=l9;obtain⟨d10,p10,xS,l10⟩:=hf 10 _ rfl;have xS:DataW.trod enc prog w base (λ_=>true) held m 37 ((c.cells.toList.drop 10).take (prog.cellsOf 37))=some (d10,p10):=xS;rw [iG]at xS;have l10:light prog 37 d10:=l10;have q3:=j_ underlying36 (show DataW.trod enc prog w base (λ_=>true) held m 36 [.slice c.vars.A c.vars.n c.vars.c]=_ from k3) l3;have q4:=j_ underlying37 (show DataW.trod enc prog w base (λ_=>true) held m 37 [.slice c.start.A c.start.n c.start.c]=_ from k4) l4;have q5:=j_ underlying37 (show DataW.trod enc prog w base (λ_=>true) held m 37 [.slice c.turn.A c.turn.n c.turn.c]=_ from k5) l5;have q6:=j_ underlying36 (show DataW.trod enc prog w base (λ_=>true) held m 36 [.slice c.params.A c.params.n c.params.c]=_ from k6) l6;have q7:=j_ underlying37 (show DataW.trod enc prog w base (λ_=>true) held m 37 [.slice c.ci.A c.ci.n c.ci.c]=_ from k7) l7;have q9:=j_ underlying37 (show DataW.trod enc prog w base (λ_=>true) held m 37 [.slice c.quiet.A c.quiet.n c.quiet.c]=_ from k9) l9;have q10:=j_ underlying37 (show DataW.trod enc prog w base (λ_=>true) held m 37 [.slice c.bP.A c.bP.n c.bP.c]=_ from xS) l10;rw [uB]at q4 q5 q7 q9 q10;refine⟨⟨⟨q3.1,q3.2.1⟩,⟨q4.1,q4.2.1⟩,⟨q5.1,q5.2.1⟩,⟨q6.1,q6.2.1⟩,⟨q7.1,q7.2.1⟩,⟨q9.1,q9.2.1⟩,⟨q10.1,q10.2.1⟩⟩,λi=>?_⟩;have pg:reachBytes=140737488351232:=rfl;rw [pg]at q4 q5 q7 q9 q10
 match i with
 |0=>show c.start.n*112+2*112<=_;omega
 |1=>show c.turn.n*112+2*112<=_;omega
 |2=>show c.ci.n*112+2*112<=_;omega
 |3=>show c.quiet.n*112+2*112<=_;omega
 |_+4=>show c.bP.n*112+2*112<=_;omega
end
section
variable {H:Type} {enc:TypeId×Value->H} {P:Program} {w:World} {base:Nat} {held:Bool}
theorem Zf {α:Type} (x) (ds:List α):(List.range ds.length).map (λi=>(ds[i]?).getD x)=ds:=
 List.ext_getElem aC (λi h1 h2=>by simp [List.getElem?_eq_getElem h2])
theorem qH {T E} {sz} {v:Value} {d:DataW H} (hu:P.underlying T=some (.slice E)) (hsz:P.cellsOf E=sz) (lz:0<sz) (h:DataW.trod enc P w base (λ_=>true) held fuel T [v]=some (d,ps)) (hw:light P T d):
 ∃(A:Option Addr) (b off len cap:Nat) (rs:List (List Value×DataW H)),v=.slice A len cap/\(0<len->A=some ⟨b,off,none⟩)/\rs.length=len/\(0<len->Row w b off (rs.map (·.1)).flatten)/\
  (∀r∈rs,r.1.length=sz/\∃n JP,n<fuel/\DataW.trod enc P w base (λ_=>true) held n E r.1=some (r.2,JP)/\light P E r.2)/\len*P.bytesOf E<=reachBytes/\Rows.uptoBulkAll (rs.map (·.2))<=Rows.uptoBulk d:=by
 rcases DataW.trod_slice hu h with⟨gu,_⟩|⟨a,len,cap,elems,rest,n,hfu,gu,hx,_,hl,hm,hlen,Iv,hsp,_⟩
 .simp at gu
  exact⟨none,0,0,0,0,[],gu,λh=>by omega,rfl,λh=>by omega,λ_ h=>by simp at h,by omega,by simp [Rows.uptoBulkAll]⟩
 .simp at gu
  obtain⟨hd,-⟩:=Prod.mk.inj hx;subst hd;unfold light at hw;rw [DataW.weights]at hw;simp only [hu,List.all_cons,List.all_append,fz,gZ,fm]at hw;obtain⟨mO,rB,-⟩:=hw;have T3:=yM rB;rw [hsz]at Iv;obtain⟨ds,hds⟩:=nm' (elems.map (·.1));have hdl:ds.length=len:=by rw [hds,fm,hlen]
  have Iu:∀i,∃cs,i<len->cs.length=sz/\(∃JP,DataW.trod enc P w base (λ_=>true) held n E cs=some ((ds[i]?).getD .nil,JP)/\light P E ((ds[i]?).getD .nil))/\∀j,j<sz->w.cell? ((a.add (i*sz)).add j)=cs[j]?:=λi=>by
   by_cases wU:i<len
   .have hie:i<elems.length:=by rw [hlen];exact wU
    have he:=Iv i wU;rw [List.getElem?_eq_getElem hie,Option.bind_eq_some_iff]at he;obtain⟨cs,hc,ht⟩:=he;obtain⟨_,jd,kL⟩:=World.cells?_some hc;have hg:(ds[i]?).getD .nil=(elems[i]'hie).1:=by rw [hds,List.getElem?_map,List.getElem?_eq_getElem hie];rfl
    exact⟨cs,λ_=>⟨jd,⟨(elems[i]'hie).2,by rw [hg];exact ht,by rw [hg];exact T3 _ (List.mem_map.2 ⟨elems[i]'hie,cK _,rfl⟩)⟩,kL⟩⟩
   .exact⟨[],λh=>absurd h wU⟩
  obtain⟨C,hC⟩:=Classical.axiomOfChoice Iu
  have hsp:0<len->a=⟨a.block,a.off,none⟩:=λh0=>by
   exact aip
  have KZ:∀cs∈(List.range len).map C,cs.length=sz:=λcs gu=>by
   simp at gu;obtain⟨i,wU,rfl⟩:=gu;exact(hC i wU).1
  have Nd:((List.range len).map (λi=>(C i,(ds[i]?).getD (.nil:DataW H)))).map (·.1)=(List.range len).map C:=by rw [List.map_map];rfl
  have jG:((List.range len).map (λi=>(C i,(ds[i]?).getD (.nil:DataW H)))).map (·.2)=ds:=by
   rw [List.map_map,<-hdl];exact Zf _ ds
  refine⟨some a,a.block,a.off,len,cap,(List.range len).map (λi=>(C i,(ds[i]?).getD .nil)),gu,λh=>by rw [<-hsp h],by simp,λh0=>?_,λr hr=>?_,?_,?_⟩
  .rw [Nd]
   have tj:=oA _ KZ;exact ann
  .obtain⟨i,hi,rfl⟩:=List.mem_map.1 hr
   obtain⟨h1,⟨JP,h2,h3⟩,-⟩:=hC i (by simpa using hi);exact⟨h1,n,JP,by omega,h2,h3⟩
  .refine ay (Nat.mul_le_mul_right _ ?_) mO
   omega
  .rw [jG,hds,Rows.uptoBulk]
   omega
theorem nJ {t} {cs} {d} (hu:P.underlying t=some (.struct fs)) (h:DataW.trod enc P w base (λ_=>true) held fuel t cs=some (d,ps)) (hw:light P t d):
 ∃n xs,fuel=n+1/\cs.length=P.cellsOf t/\d=.agg xs/\xs.length=fs.size/\∀(i:Nat) (f:Field),fs[i]?=some f->∃d' JP,xs[i]?=some d'/\DataW.trod enc P w base (λ_=>true) held n f.type ((cs.drop f.offset).take (P.cellsOf f.type))=some (d',JP)/\light P f.type d':=by
 obtain⟨xs,n,hfu,hx,hl,o_,hf⟩:=DataW.trod_struct hu h;obtain⟨hd,-⟩:=Prod.mk.inj hx;subst hd;unfold light at hw;rw [DataW.weights]at hw;simp only [hu]at hw;refine⟨n,xs.map (·.1),hfu,hl,rfl,by rw [fm,o_],λi f hif=>?_⟩
 have aX:i<xs.length:=by
  rw [o_];exact(Array.getElem?_eq_some_iff.1 hif).1
 have h1:=hf i f hif;rw [List.getElem?_eq_getElem aX]at h1;refine⟨xs[i].1,xs[i].2,by rw [List.getElem?_map,List.getElem?_eq_getElem aX];rfl,h1,light_each hw i f.type xs[i].1 ?_ ?_⟩
 .rw [List.getElem?_map,Array.getElem?_toList,hif];rfl
 .rw [List.getElem?_map,List.getElem?_eq_getElem aX];rfl
end
section
variable {H:Type} {enc:TypeId×Value->H} {w:World} {base:Nat} {held:Bool}
def adE (w:World) (cs:List Value) (s:Nat):Prop:=∃(op n:Int) (name:Str) (A:Option Addr) (cap:Nat) (F:EF),cs=(aF op n name A F.len cap).toList/\aI op/\aI n/\name.size<=maxLen/\lJ w w.heap.size A F.len F/\F.size+1<=s
theorem Rn:∀(rs:List (List Value×DataW H)) (_:∀r∈rs,adE w r.1 (Rows.uptoBulk r.2)) (b off:Nat) (_:0<rs.length->Row w b off (rs.map (·.1)).flatten),∃F:EF,F.len=rs.length/\lU w w.heap.size F b off/\F.size<=Rows.uptoBulkAll (rs.map (·.2))
 |[],_,_,_,_=>⟨.nil,rfl,trivial,de _⟩
 |(cs,d)::r,h,b,off,hr=>by
  have aG:=hr aC;rw [nC,List.flatten_cons]at aG;obtain⟨op,n,name,A,cap,K,e,h1,h2,h3,h4,h5⟩:=h (cs,d) aC;obtain rfl:cs=(aF op n name A K.len cap).toList:=e;obtain⟨-,hf,b',bR,hA,hE⟩:=h4;obtain⟨R,gW,nL,oY⟩:=Rn r (λx hx=>h x (by simp [hx])) b (off+4) (λ_=>aG.tail);obtain⟨hh,hg⟩:=aG.head;refine⟨.cons op n name K R,by simp [EF.len,gW],⟨aG.lt,h1,h2,h3,⟨A,cap,b',bR,hh,hg,hf,hA,hE⟩,nL⟩,?_⟩;rw [nC,Rows.uptoBulkAll,EF.size];have h5:K.size+1<=Rows.uptoBulk d:=h5;show 1+K.size+R.size<=Rows.uptoBulk d+_
  omega
theorem TD:∀fuel v d ps,Trd w base held enc fuel 219 [v] d ps->∃A n cap F,v=.slice A n cap/\lJ w w.heap.size A n F/\F.size<=Rows.uptoBulk d:=by
 intro fuel
 induction fuel using Nat.strongRecOn with
 |ind fuel IH=>
  intro v d ps ⟨h,hw⟩;obtain⟨A,b,off,len,cap,rs,rfl,hA,hl,hr,hc,hb,AL⟩:=qH underlying219 aga ad h hw
  have hok:∀r∈rs,adE w r.1 (Rows.uptoBulk r.2):=λr hrs=>by
   obtain⟨jd,n,JP,aX,ht,K9⟩:=hc r hrs;obtain⟨cs,dd⟩:=r;obtain⟨m,xs,rfl,_,hdx,o_,hf⟩:=nJ underlying221 ht K9;obtain⟨d0,p0,g0,k0,l0⟩:=hf 0 _ rfl;have k0:DataW.trod enc prog w base (λ_=>true) held m 3 ((cs.drop 0).take (prog.cellsOf 3))=some (d0,p0):=k0;rw [jf]at k0;refine aar ?_;intro d1 p1 g1 l1 k1;obtain⟨d2,p2,g2,k2,l2⟩:=hf 2 _ rfl;have k2:DataW.trod enc prog w base (λ_=>true) held m 9 ((cs.drop 2).take (prog.cellsOf 9))=some (d2,p2):=k2;rw [rK]at k2;obtain⟨d3,p3,g3,k3,l3⟩:=hf 3 _ rfl;have k3:DataW.trod enc prog w base (λ_=>true) held m 219 ((cs.drop 3).take (prog.cellsOf 219))=some (d3,p3):=k3;rw [Kh]at k3;have l3:light prog 219 d3:=l3;obtain⟨n0,e0,_,w0⟩:=DataW.trod_int underlying3 k0;obtain⟨n1,e1,_,w1⟩:=DataW.trod_int underlying3 k1;obtain⟨s2,e2,_,w2⟩:=DataW.trod_string underlying9 k2;have o_:xs.length=4:=o_
   match cs,jd,xs,o_ with
   |[c0,c1,c2,c3],_,[x0,x1,x2,x3],_=>
    simp at e0 e1 e2 k3 g3;subst e0 e1 e2 g3;obtain⟨A',n',eD,F,rfl,hE,hS⟩:=IH m ad c3 x3 p3 ⟨k3,l3⟩;have hn:=hE.1;subst hn;refine⟨n0,n1,s2,A',eD,F,rfl,lQ w0,lQ w1,w2,hE,?_⟩;show F.size+1<=Rows.uptoBulk dd;rw [show dd=.agg [x0,x1,x2,x3]from hdx];simp only [Rows.uptoBulk,Rows.uptoBulkAll]
    omega
  obtain⟨F,Oc,hF2,hF3⟩:=Rn rs hok b off (λh0=>hr ad);rw [afN]at hb;exact⟨A,len,cap,F,rfl,⟨by omega,by unfold Fits;unfold reachBytes at hb;omega,b,off,hA,hF2⟩,ay hF3 AL⟩
def adK (w:World) (cs:List Value) (s:Nat):Prop:=∃(kind:Int) (name:Str) (e:EF) (low high:Int) (l x:SF) (eA:Option Addr) (ec:Nat) (lA:Option Addr) (lc:Nat) (xA:Option Addr) (xc:Nat),cs=(au kind name eA e.len ec low high lA l.len lc xA x.len xc).toList/\aI kind/\aI low/\aI high/\name.size<=maxLen/\lJ w w.heap.size eA e.len e/\jc w w.heap.size lA l.len l/\jc w w.heap.size xA x.len x/\e.size+l.size+x.size+1<=s
theorem Sd:∀(rs:List (List Value×DataW H)) (_:∀r∈rs,adK w r.1 (Rows.uptoBulk r.2)) (b off:Nat) (_:0<rs.length->Row w b off (rs.map (·.1)).flatten),∃F:SF,F.len=rs.length/\mS w w.heap.size F b off/\F.size<=Rows.uptoBulkAll (rs.map (·.2))
 |[],_,_,_,_=>⟨.nil,rfl,trivial,de _⟩
 |(cs,d)::r,h,b,off,hr=>by
  have aG:=hr aC;rw [nC,List.flatten_cons]at aG;obtain⟨kind,name,e,low,high,l,x,eA,ec,lA,lc,xA,xc,q,h1,h2,h3,h4,h5,h6,h7,h8⟩:=h (cs,d) aC;obtain rfl:cs=(au kind name eA e.len ec low high lA l.len lc xA x.len xc).toList:=q;obtain⟨-,f1,be,oe,a1,e1⟩:=h5;obtain⟨-,f2,bl,ol,a2,e2⟩:=h6;obtain⟨-,f3,bx,ox,a3,e3⟩:=h7;obtain⟨R,gW,nL,oY⟩:=Sd r (λy hy=>h y (by simp [hy])) b (off+7) (λ_=>aG.tail);obtain⟨hh,hg⟩:=aG.head;refine⟨.cons kind name e low high l x R,by simp [SF.len,gW],⟨aG.lt,h1,h2,h3,h4,⟨eA,ec,lA,lc,xA,xc,be,oe,bl,ol,bx,ox,hh,hg,f1,f2,f3,a1,a2,a3,e1,e2,e3⟩,nL⟩,?_⟩;rw [nC,Rows.uptoBulkAll,SF.size];have h8:e.size+l.size+x.size+1<=Rows.uptoBulk d:=h8;show 1+e.size+l.size+x.size+R.size<=Rows.uptoBulk d+_
  omega
theorem pW:∀fuel v d ps,Trd w base held enc fuel 37 [v] d ps->∃A n cap F,v=.slice A n cap/\jc w w.heap.size A n F/\F.size<=Rows.uptoBulk d:=by
 intro fuel
 induction fuel using Nat.strongRecOn with
 |ind fuel IH=>
  intro v d ps ⟨h,hw⟩;obtain⟨A,b,off,len,cap,rs,rfl,hA,hl,hr,hc,hb,AL⟩:=qH underlying37 agb ad h hw
  have hok:∀r∈rs,adK w r.1 (Rows.uptoBulk r.2):=λr hrs=>by
   obtain⟨jd,n,JP,aX,ht,K9⟩:=hc r hrs;obtain⟨cs,dd⟩:=r;obtain⟨m,xs,rfl,_,hdx,o_,hf⟩:=nJ underlying223 ht K9;obtain⟨d0,p0,g0,k0,l0⟩:=hf 0 _ rfl;have k0:DataW.trod enc prog w base (λ_=>true) held m 3 ((cs.drop 0).take (prog.cellsOf 3))=some (d0,p0):=k0;rw [jf]at k0;obtain⟨d1,p1,g1,k1,l1⟩:=hf 1 _ rfl;have k1:DataW.trod enc prog w base (λ_=>true) held m 9 ((cs.drop 1).take (prog.cellsOf 9))=some (d1,p1):=k1;rw [rK]at k1;obtain⟨d2,p2,g2,k2,l2⟩:=hf 2 _ rfl;have k2:DataW.trod enc prog w base (λ_=>true) held m 219 ((cs.drop 2).take (prog.cellsOf 219))=some (d2,p2):=k2;rw [Kh]at k2;have l2:light prog 219 d2:=l2;obtain⟨d3,p3,g3,k3,l3⟩:=hf 3 _ rfl;have k3:DataW.trod enc prog w base (λ_=>true) held m 3 ((cs.drop 3).take (prog.cellsOf 3))=some (d3,p3):=k3;rw [jf]at k3;obtain⟨d4,p4,g4,k4,l4⟩:=hf 4 _ rfl;have k4:DataW.trod enc prog w base (λ_=>true) held m 3 ((cs.drop 4).take (prog.cellsOf 3))=some (d4,p4):=k4;rw [jf]at k4;obtain⟨d5,p5,g5,k5,l5⟩:=hf 5 _ rfl;have k5:DataW.trod enc prog w base (λ_=>true) held m 37 ((cs.drop 5).take (prog.cellsOf 37))=some (d5,p5):=k5;rw [iG]at k5;have l5:light prog 37 d5:=l5;obtain⟨d6,p6,g6,k6,l6⟩:=hf 6 _ rfl;have k6:DataW.trod enc prog w base (λ_=>true) held m 37 ((cs.drop 6).take (prog.cellsOf 37))=some (d6,p6):=k6;rw [iG]at k6;have l6:light prog 37 d6:=l6;obtain⟨n0,e0,_,w0⟩:=DataW.trod_int underlying3 k0;obtain⟨s1,e1,_,w1⟩:=DataW.trod_string underlying9 k1;obtain⟨n3,e3,_,w3⟩:=DataW.trod_int underlying3 k3;obtain⟨n4,e4,_,w4⟩:=DataW.trod_int underlying3 k4;have o_:xs.length=7:=o_
   match cs,jd,xs,o_ with
   |[c0,c1,c2,c3,c4,c5,c6],_,[x0,x1,x2,x3,x4,x5,x6],_=>
    simp at e0 e1 e3 e4 k2 k5 k6 g2 g5 g6;subst e0 e1 e3 e4 g2 g5 g6;obtain⟨eA,en,ec,e,rfl,hE,z1⟩:=TD _ c2 x2 p2 ⟨k2,l2⟩;obtain⟨lA,ln,lc,l,rfl,hL,z2⟩:=IH m ad c5 x5 p5 ⟨k5,l5⟩;obtain⟨xA,xn,xc,x,rfl,hX,z3⟩:=IH m ad c6 x6 p6 ⟨k6,l6⟩;have q1:=hE.1;have q2:=hL.1;have q3:=hX.1;subst q1 q2 q3;refine⟨n0,s1,e,n3,n4,l,x,eA,ec,lA,lc,xA,xc,rfl,lQ w0,lQ w3,lQ w4,w1,hE,hL,hX,?_⟩;show e.size+l.size+x.size+1<=Rows.uptoBulk dd;rw [show dd=.agg [x0,x1,x2,x3,x4,x5,x6]from hdx];simp only [Rows.uptoBulk,Rows.uptoBulkAll]
    omega
  obtain⟨F,Oc,hF2,hF3⟩:=Sd rs hok b off (λh0=>hr ad);rw [uB]at hb;exact⟨A,len,cap,F,rfl,⟨by omega,by unfold Fits;unfold reachBytes at hb;omega,b,off,hA,hF2⟩,ay hF3 AL⟩
theorem G6:∀(rs:List (List Value×DataW H)),(∀r∈rs,(∃v:Vr,SW v/\r.1=(aO v).toList)/\1<=Rows.uptoBulk r.2)->∃l:List Vr,l.length=rs.length/\(∀v∈l,SW v)/\(rs.map (·.1)).flatten=b_ aO l/\l.length<=Rows.uptoBulkAll (rs.map (·.2))
 |[],_=>⟨[],rfl,by simp,rfl,de _⟩
 |(c,d)::r,h=>by
  obtain⟨⟨i,hi,e⟩,h1⟩:=h (c,d) aC;obtain rfl:c=(aO i).toList:=e;obtain⟨l,hl,ho,he,hs⟩:=G6 r (λcs gu=>h cs (by simp [gu]));refine⟨i::l,by simp [hl],by simp;exact⟨hi,ho⟩,by rw [nC,List.flatten_cons,he];rfl,?_⟩;rw [nC,Rows.uptoBulkAll,dT];have h1:1<=Rows.uptoBulk d:=h1;show _<=Rows.uptoBulk d+_
  omega
theorem Si {v} {d} (hh:Trd w base held enc fuel 36 [v] d ps):∃A n cap l,v=.slice A n cap/\rA w w.heap.size A n l/\l.length<=Rows.uptoBulk d:=by
 obtain⟨h,hw⟩:=hh;obtain⟨A,b,off,len,cap,rs,rfl,hA,hl,hr,hc,hb,AL⟩:=qH underlying36 abx ad h hw
 obtain⟨l,hll,ho,he,hs⟩:=G6 rs (λr hrs=>by
  obtain⟨jd,n,JP,aX,ht,K9⟩:=hc r hrs;obtain⟨cs,dd⟩:=r;obtain⟨m,xs,rfl,_,hdx,o_,hf⟩:=nJ underlying174 ht K9;obtain⟨d0,p0,g0,k0,l0⟩:=hf 0 _ rfl;have k0:DataW.trod enc prog w base (λ_=>true) held m 9 ((cs.drop 0).take (prog.cellsOf 9))=some (d0,p0):=k0;rw [rK]at k0;refine aar ?_;intro d1 p1 g1 l1 k1;obtain⟨d2,p2,g2,k2,l2⟩:=hf 2 _ rfl;have k2:DataW.trod enc prog w base (λ_=>true) held m 3 ((cs.drop 2).take (prog.cellsOf 3))=some (d2,p2):=k2;rw [jf]at k2;obtain⟨d3,p3,g3,k3,l3⟩:=hf 3 _ rfl;have k3:DataW.trod enc prog w base (λ_=>true) held m 3 ((cs.drop 3).take (prog.cellsOf 3))=some (d3,p3):=k3;rw [jf]at k3;obtain⟨s0,e0,_,w0⟩:=DataW.trod_string underlying9 k0;obtain⟨n1,e1,_,w1⟩:=DataW.trod_int underlying3 k1;obtain⟨n2,e2,_,w2⟩:=DataW.trod_int underlying3 k2;obtain⟨n3,e3,_,w3⟩:=DataW.trod_int underlying3 k3
  match cs,jd with
  |[c0,c1,c2,c3],_=>
   simp at e0 e1 e2 e3;subst e0 e1 e2 e3;refine⟨⟨⟨s0,n1,n2,n3⟩,⟨w0,lQ w1,lQ w2,lQ w3⟩,rfl⟩,?_⟩;show 1<=Rows.uptoBulk dd;rw [show dd=.agg xs from hdx,Rows.uptoBulk]
   omega)
 rw [afP]at hb;exact⟨A,len,cap,l,rfl,⟨by omega,by unfold Fits;unfold reachBytes at hb;omega,ho,b,off,hA,λh0=>⟨(hr h0).lt,he▸hr h0⟩⟩,ay hs AL⟩
theorem Zy {cs} {d} (hh:Trd w base held enc fuel 39 cs d ps):∃c p,cs=c.cells.toList/\lZ w w.heap.size c p/\dE p<=Rows.uptoBulk d:=by
 obtain⟨h,hw⟩:=hh;obtain⟨m,xs,rfl,jd,hdx,o_,hf⟩:=nJ underlying39 h hw;rw [XA]at jd;obtain⟨d0,p0,g0,k0,l0⟩:=hf 0 _ rfl;have k0:DataW.trod enc prog w base (λ_=>true) held m 9 ((cs.drop 0).take (prog.cellsOf 9))=some (d0,p0):=k0;rw [rK]at k0;refine aar ?_;intro d1 p1 g1 l1 k1;obtain⟨d2,p2,g2,k2,l2⟩:=hf 2 _ rfl;have k2:DataW.trod enc prog w base (λ_=>true) held m 35 ((cs.drop 2).take (prog.cellsOf 35))=some (d2,p2):=k2;rw [XB]at k2;have l2:light prog 35 d2:=l2;obtain⟨d3,p3,g3,k3,l3⟩:=hf 3 _ rfl;have k3:DataW.trod enc prog w base (λ_=>true) held m 36 ((cs.drop 3).take (prog.cellsOf 36))=some (d3,p3):=k3;rw [wG]at k3;have l3:light prog 36 d3:=l3;obtain⟨d4,p4,g4,k4,l4⟩:=hf 4 _ rfl;have k4:DataW.trod enc prog w base (λ_=>true) held m 37 ((cs.drop 4).take (prog.cellsOf 37))=some (d4,p4):=k4;rw [iG]at k4;have l4:light prog 37 d4:=l4;obtain⟨d5,p5,g5,k5,l5⟩:=hf 5 _ rfl;have k5:DataW.trod enc prog w base (λ_=>true) held m 37 ((cs.drop 5).take (prog.cellsOf 37))=some (d5,p5):=k5;rw [iG]at k5;have l5:light prog 37 d5:=l5;obtain⟨d6,p6,g6,k6,l6⟩:=hf 6 _ rfl;have k6:DataW.trod enc prog w base (λ_=>true) held m 36 ((cs.drop 6).take (prog.cellsOf 36))=some (d6,p6):=k6;rw [wG]at k6;have l6:light prog 36 d6:=l6;obtain⟨d7,p7,g7,k7,l7⟩:=hf 7 _ rfl;have k7:DataW.trod enc prog w base (λ_=>true) held m 37 ((cs.drop 7).take (prog.cellsOf 37))=some (d7,p7):=k7;rw [iG]at k7;have l7:light prog 37 d7:=l7;obtain⟨d8,p8,g8,k8,l8⟩:=hf 8 _ rfl;have k8:DataW.trod enc prog w base (λ_=>true) held m 9 ((cs.drop 8).take (prog.cellsOf 9))=some (d8,p8):=k8;rw [rK]at k8;obtain⟨d9,p9,g9,k9,l9⟩:=hf 9 _ rfl;have k9:DataW.trod enc prog w base (λ_=>true) held m 37 ((cs.drop 9).take (prog.cellsOf 37))=some (d9,p9):=k9;rw [iG]at k9;have l9:light prog 37 d9:=l9;obtain⟨d10,p10,g10,xS,l10⟩:=hf 10 _ rfl;have xS:DataW.trod enc prog w base (λ_=>true) held m 37 ((cs.drop 10).take (prog.cellsOf 37))=some (d10,p10):=xS;rw [iG]at xS;have l10:light prog 37 d10:=l10;obtain⟨s0,e0,_,w0⟩:=DataW.trod_string underlying9 k0;obtain⟨n1,e1,_,w1⟩:=DataW.trod_int underlying3 k1;obtain⟨s8,e8,_,w8⟩:=DataW.trod_string underlying9 k8;have o_:xs.length=11:=o_
 match cs,jd,xs,o_ with
 |[c0,c1,c2,c3,c4,c5,c6,c7,c8,c9,c10],_,[x0,x1,x2,x3,x4,x5,x6,x7,x8,x9,x10],_=>
  simp at e0 e1 e8 k2 k3 k4 k5 k6 k7 k9 xS g2 g3 g4 g5 g6 g7 g9 g10;subst e0 e1 e8 g2 g3 g4 g5 g6 g7 g9 g10;obtain⟨A2,q2,r2,y2,rfl,h2⟩:=acd ⟨k2,l2⟩;obtain⟨A3,q3,r3,y3,rfl,h3,z3⟩:=Si ⟨k3,l3⟩;obtain⟨A4,q4,r4,y4,rfl,h4,z4⟩:=pW _ c4 x4 p4 ⟨k4,l4⟩;obtain⟨A5,q5,r5,y5,rfl,h5,z5⟩:=pW _ c5 x5 p5 ⟨k5,l5⟩;obtain⟨A6,q6,r6,y6,rfl,h6,z6⟩:=Si ⟨k6,l6⟩;obtain⟨A7,q7,r7,y7,rfl,h7,z7⟩:=pW _ c7 x7 p7 ⟨k7,l7⟩;obtain⟨A9,q9,r9,y9,rfl,h9,z9⟩:=pW _ c9 x9 p9 ⟨k9,l9⟩;obtain⟨A10,q10,r10,JR,rfl,h10,z10⟩:=pW _ c10 x10 p10 ⟨xS,l10⟩
  refine⟨⟨s0,n1,⟨A2,q2,r2⟩,⟨A3,q3,r3⟩,⟨A4,q4,r4⟩,⟨A5,q5,r5⟩,⟨A6,q6,r6⟩,⟨A7,q7,r7⟩,s8,⟨A9,q9,r9⟩,⟨A10,q10,r10⟩⟩,⟨s0,n1,y2,y3,y4,y5,y6,y7,s8,y9,JR⟩,rfl,
   ⟨rfl,w0,rfl,lQ w1,h2,h3,h4,h5,h6,h7,rfl,w8,h9,h10⟩,?_⟩
  rw [hdx];simp only [Rows.uptoBulk,Rows.uptoBulkAll,dE]
  omega
end
open Mc
section
variable {H:Type} {enc:TypeId×Value->H} {w:World} {base:Nat} {held:Bool}
theorem Xz:prog.cellsOf 21=1:=by kernel_rfl
theorem Kg:prog.cellsOf 40=1:=by kernel_rfl
theorem Gy:∀(tW:List (List Value)),(∀cs∈tW,∃n:Int,ax n/\cs=[.int .i32 n])->∃l:List Int,l.length=tW.length/\(∀i∈l,ax i)/\tW.flatten=bJ l
 |[],_=>⟨[],rfl,by simp,rfl⟩
 |c::r,h=>by
  obtain⟨i,hi,rfl⟩:=h c aC;obtain⟨l,hl,ho,he⟩:=Gy r (λcs gu=>h cs (by simp [gu]));exact⟨i::l,by simp [hl],by simp;exact⟨hi,ho⟩,by rw [List.flatten_cons,he];rfl⟩
theorem mem_of {v} {d} (h:DataW.trod enc prog w base (λ_=>true) held fuel 40 [v]=some (d,ps)) (hw:light prog 40 d):
 ∃s l,v=s.v/\mR w w.heap.size s l:=by
 obtain⟨A,b,off,len,cap,rs,rfl,hA,hl,hr,hc,-,-⟩:=qH underlying40 Xz ad h hw
 obtain⟨l,hll,ho,he⟩:=Gy (rs.map (·.1)) (λcs gu=>by
  obtain⟨r,hr,rfl⟩:=List.mem_map.1 gu;obtain⟨_,n,JP,_,ht,_⟩:=hc r hr;obtain⟨k,e,_,wf⟩:=DataW.trod_int underlying21 ht;exact⟨k,by simpa [Lit.wf,IntKind.min,IntKind.max,IntKind.signed,IntKind.bits,ax]using wf,e⟩)
 rw [fm]at hll;exact⟨⟨A,len,cap⟩,l,rfl,show len=l.length by omega,ho,b,off,hA,λh0=>⟨(hr h0).lt,he▸hr h0⟩⟩
end
open Go.ChangeAt
set_option maxRecDepth 100000
section
variable {H:Type} {enc:TypeId×Value->H} {W:World} {base:Nat}
theorem abw:prog.cellsOf 42=14:=by kernel_rfl
theorem afJ {T} {v} (hu:prog.underlying T=some (.struct fs)) (o:Value.okWide prog W .any base T v):∃cs,v=.agg cs:=by
 simp only [Value.okWide,hu]at o;obtain⟨cs,h1,_⟩:=o;exact⟨cs,h1⟩
theorem Zq {v} {d} {p:List MemPlace} (o:Value.okWide prog W .any base 42 v) (h:DataW.Trod enc prog W 0 (λ_=>true) true 42 v d p) (z:light prog 42 d):
 ∃(c:Pc) (q:Pr) (n:Int) (s t:iu) (V A:List Int),v=.agg (BB c n s t)/\lZ W W.heap.size c q/\Ho c/\dE q<=Rows.uptoBulk d/\mR W W.heap.size s V/\mR W W.heap.size t A:=by
 obtain⟨cs,rfl⟩:=afJ underlying42 o;obtain⟨fuel,hf⟩:=h;obtain⟨m,xs,rfl,jd,hdx,o_,hf⟩:=nJ underlying42 hf z;rw [abw]at jd;obtain⟨d0,p0,g0,k0,l0⟩:=hf 0 _ rfl;have k0:DataW.trod enc prog W 0 (λ_=>true) true m 39 (((Value.agg cs).cells.toList.drop 0).take (prog.cellsOf 39))=some (d0,p0):=k0;rw [XA]at k0;obtain⟨d1,p1,g1,k1,l1⟩:=hf 1 _ rfl;have k1:DataW.trod enc prog W 0 (λ_=>true) true m 3 (((Value.agg cs).cells.toList.drop 11).take (prog.cellsOf 3))=some (d1,p1):=k1;rw [jf]at k1;obtain⟨d2,p2,g2,k2,l2⟩:=hf 2 _ rfl;have k2:DataW.trod enc prog W 0 (λ_=>true) true m 40 (((Value.agg cs).cells.toList.drop 12).take (prog.cellsOf 40))=some (d2,p2):=k2;rw [Kg]at k2;have l2:light prog 40 d2:=l2;obtain⟨d3,p3,g3,k3,l3⟩:=hf 3 _ rfl;have k3:DataW.trod enc prog W 0 (λ_=>true) true m 40 (((Value.agg cs).cells.toList.drop 13).take (prog.cellsOf 40))=some (d3,p3):=k3;rw [Kg]at k3;have l3:light prog 40 d3:=l3;obtain⟨c,q,e,hp,hs⟩:=Zy ⟨k0,l0⟩;have k0':DataW.trod enc prog W 0 (λ_=>true) true m 39 c.cells.toList=some (d0,p0):=e▸k0;obtain⟨hc,_⟩:=abu ⟨k0',l0⟩;obtain⟨n,e1,-⟩:=DataW.trod_int underlying3 k1
 have hb:dE q<=Rows.uptoBulk d:=by
  rw [hdx]
  cases xs with
  |nil=>simp at g0
  |cons x r=>
   simp only [List.getElem?_cons_zero,Option.some.injEq]at g0;subst g0;simp only [Rows.uptoBulk,Rows.uptoBulkAll]
   omega
 obtain⟨l⟩:=cs;simp only [Value.cells]at jd e e1 k2 k3
 match l,jd with
 |[a0,a1,a2,a3,a4,a5,a6,a7,a8,a9,a10,a11,a12,a13],_=>
  obtain⟨s,V,rfl,hV⟩:=mem_of (v:=a12) (by simpa using k2) l2;obtain⟨t,A,rfl,hA⟩:=mem_of (v:=a13) (by simpa using k3) l3;simp only [List.drop,List.take,List.cons.injEq]at e e1;obtain⟨rfl,rfl,rfl,rfl,rfl,rfl,rfl,rfl,rfl,rfl,rfl,_⟩:=e;obtain⟨rfl,_⟩:=e1;exact⟨c,q,n,s,t,V,A,rfl,hp,hc,hb,hV,hA⟩
end
end
namespace Mc
open Sq
theorem Uq (x) (k) (h:0<k) (h2:k<=1000):∃a:Nat,a<k/\wrap64 ((IntKind.u64.wrap x).tmod k)=(a:Int):=by
 have h0:0<=IntKind.u64.wrap x:=by rw [xF];omega
 have h1:(IntKind.u64.wrap x).tmod k=IntKind.u64.wrap x%k:=Int.tmod_eq_emod_of_nonneg h0;have h3:=Int.emod_lt_of_pos (IntKind.u64.wrap x) (show(0:Int)<k by omega);have h4:=Int.emod_nonneg (IntKind.u64.wrap x) (show(k:Int)≠0 by omega);refine⟨(IntKind.u64.wrap x%k).toNat,by omega,?_⟩;rw [h1];unfold wrap64
 omega
