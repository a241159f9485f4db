import Derived.Lib.SliceRun
import Derived.ChangeArms
import Derived.Test.YtnhelcmddjbafaaGreatDoorTaag
set_option maxHeartbeats 4000000
set_option maxRecDepth 100000
open Go.Proofs.Tryz
namespace Go.Proofs.YtnhelcmddjbafaaGreatDoor
open Go.RowKit
namespace Mc
theorem alQ (w) (base s g n kc q) (A) (b off cn cap) (c) (pc) (m) (h:dG w base s g n kc q A b off cn c pc m) (a y z:Nat) (ha:a<n) (hy:y<n) (hz:z<n) (eU:da c pc n=some ⟨11,a,y,z⟩) (bS:aW ⟨11,a,y,z⟩ cn n=true):
 Calls prog 115 #[.pointer (some ⟨s,0,none⟩),.slice A cn cap,.map (some q)] w λe w'=>e=.returned (.tuple #[])/\Stepped w w' base s g n kc (bt ⟨11,a,y,z⟩ pc m):=by
 refine Hi ?_;clear h eU bS;intro ua kM dF dm dl jD ly mh oc qy CR CT vH HX HN HO my HA HR rv mz;go_wp21;refine Ba ?_;intro e w1 e1 aB;replace e1:e=.returned (.tuple #[.agg (Ins.cells ⟨11,a,y,z⟩),.bool true]):=by rw [e1,HX.o];rfl
 subst e1;have dW:=bN w1 71 (Ins.cells ⟨11,a,y,z⟩);have x1:=aB.alloc (.cells (Ins.cells ⟨11,a,y,z⟩) 71);have ed:=bX dF x1;have eT:=dm.ext x1;have jE:=dl.ext x1;have l1:=aB.size;clear dF dm dl aB;go_upto_region 3 with(fail);generalize (w1.alloc (.cells (Ins.cells ⟨11,a,y,z⟩) 71))=W1 at dW x1 ed eT jE⊢;refine ni ?_;clear dW l1;intro ic dW l1 lP mX;go_wp21;refine(eh ⟨11,a,y,z⟩ cn s pc 0 g 0 n kc m _ HN.o kM mz.o HO.o ed eT.row).mono ?_;rintro e w2 ⟨e2,bM⟩;replace e2:e=.returned (.int .i64 (-1)):=by rw [e2];rfl
 subst e2;refine EI ?_;clear dW ed eT jE x1 bM lP mX;intro x2 kI gX eE td xQ jZ AO lI lS lG;have nl:a<m.length:=by have:=HN.o;omega
 have JJ:(a:Int)<n:=by omega
 have qh:y<m.length:=by have:=HN.o;omega
 have Nk:(y:Int)<n:=by omega
 have sd:z<m.length:=by have:=HN.o;omega
 have OH:(z:Int)<n:=by omega
 have Gl:=eE.cell a nl;have KS:=eE.frozen;obtain⟨v,hv⟩:=nm' (m[y]);have vO:gq (ax v):=J vj;obtain⟨u,hu⟩:=nm' (m[z]);have EU:gq (ax u):=J Ei;have HE:gq (bt ⟨11,a,y,z⟩ pc m=(pc+1,0,m.set a (gR 11 v u))):=J Eh;have HV:=J hv;have HU:=J hu;clear hv hu;go_upto_region 9 with(fail);refine zy8 ?_
 repeat first|refine bV ?_|refine cF dQ (by intro w1 hS;have d1:=bC (bX kI hS);have d2:=(eE.ext hS).cell y qh;rw [<-HV.o]at d2;have d3:=(eE.ext hS).cell z sd;rw [<-HU.o]at d3;have d4:=si _ q 11 (.func (.func 177) #[] #[]) 8 (td.ext hS) dZ;exact fE) ?_|refine cD dQ ?_
 refine ap (λK hK=>?_);go_simp;go_wp21;refine uW (amd v u vO.o EU.o _) ?_;refine hK.out _ _ (λh=>h) ?_;clear hK K;obtain⟨t,ht⟩:=nm' (gR 11 v u);exact Em
theorem alR (w) (base s g n kc q) (A) (b off cn cap) (c) (pc) (m) (h:dG w base s g n kc q A b off cn c pc m) (a y z:Nat) (ha:a<n) (hy:y<n) (hz:z<n) (eU:da c pc n=some ⟨12,a,y,z⟩) (bS:aW ⟨12,a,y,z⟩ cn n=true):
 Calls prog 115 #[.pointer (some ⟨s,0,none⟩),.slice A cn cap,.map (some q)] w λe w'=>e=.returned (.tuple #[])/\Stepped w w' base s g n kc (bt ⟨12,a,y,z⟩ pc m):=by
 refine Hi ?_;clear h eU bS;intro ua kM dF dm dl jD ly mh oc qy CR CT vH HX HN HO my HA HR rv mz;go_wp21;refine Ba ?_;intro e w1 e1 aB;replace e1:e=.returned (.tuple #[.agg (Ins.cells ⟨12,a,y,z⟩),.bool true]):=by rw [e1,HX.o];rfl
 subst e1;have dW:=bN w1 71 (Ins.cells ⟨12,a,y,z⟩);have x1:=aB.alloc (.cells (Ins.cells ⟨12,a,y,z⟩) 71);have ed:=bX dF x1;have eT:=dm.ext x1;have jE:=dl.ext x1;have l1:=aB.size;clear dF dm dl aB;go_upto_region 3 with(fail);generalize (w1.alloc (.cells (Ins.cells ⟨12,a,y,z⟩) 71))=W1 at dW x1 ed eT jE⊢;refine ni ?_;clear dW l1;intro ic dW l1 lP mX;go_wp21;refine(eh ⟨12,a,y,z⟩ cn s pc 0 g 0 n kc m _ HN.o kM mz.o HO.o ed eT.row).mono ?_;rintro e w2 ⟨e2,bM⟩;replace e2:e=.returned (.int .i64 (-1)):=by rw [e2];rfl
 subst e2;refine EI ?_;clear dW ed eT jE x1 bM lP mX;intro x2 kI gX eE td xQ jZ AO lI lS lG;have nl:a<m.length:=by have:=HN.o;omega
 have JJ:(a:Int)<n:=by omega
 have qh:y<m.length:=by have:=HN.o;omega
 have Nk:(y:Int)<n:=by omega
 have sd:z<m.length:=by have:=HN.o;omega
 have OH:(z:Int)<n:=by omega
 have Gl:=eE.cell a nl;have KS:=eE.frozen;obtain⟨v,hv⟩:=nm' (m[y]);have vO:gq (ax v):=J vj;obtain⟨u,hu⟩:=nm' (m[z]);have EU:gq (ax u):=J Ei;have HE:gq (bt ⟨12,a,y,z⟩ pc m=(pc+1,0,m.set a (gR 12 v u))):=J Eh;have HV:=J hv;have HU:=J hu;clear hv hu;go_upto_region 9 with(fail);refine zy8 ?_
 repeat first|refine bV ?_|refine cF dQ (by intro w1 hS;have d1:=bC (bX kI hS);have d2:=(eE.ext hS).cell y qh;rw [<-HV.o]at d2;have d3:=(eE.ext hS).cell z sd;rw [<-HU.o]at d3;have d4:=si _ q 12 (.func (.func 178) #[] #[]) 9 (td.ext hS) dZ;exact fE) ?_|refine cD dQ ?_
 refine ap (λK hK=>?_);go_simp;go_wp21;refine uW (ame v u vO.o EU.o _) ?_;refine hK.out _ _ (λh=>h) ?_;clear hK K;obtain⟨t,ht⟩:=nm' (gR 12 v u);exact Em
theorem alS (w) (base s g n kc q) (A) (b off cn cap) (c) (pc) (m) (h:dG w base s g n kc q A b off cn c pc m) (a y z:Nat) (ha:a<n) (hy:y<n) (hz:z<n) (eU:da c pc n=some ⟨13,a,y,z⟩) (bS:aW ⟨13,a,y,z⟩ cn n=true):
 Calls prog 115 #[.pointer (some ⟨s,0,none⟩),.slice A cn cap,.map (some q)] w λe w'=>e=.returned (.tuple #[])/\Stepped w w' base s g n kc (bt ⟨13,a,y,z⟩ pc m):=by
 refine Hi ?_;clear h eU bS;intro ua kM dF dm dl jD ly mh oc qy CR CT vH HX HN HO my HA HR rv mz;go_wp21;refine Ba ?_;intro e w1 e1 aB;replace e1:e=.returned (.tuple #[.agg (Ins.cells ⟨13,a,y,z⟩),.bool true]):=by rw [e1,HX.o];rfl
 subst e1;have dW:=bN w1 71 (Ins.cells ⟨13,a,y,z⟩);have x1:=aB.alloc (.cells (Ins.cells ⟨13,a,y,z⟩) 71);have ed:=bX dF x1;have eT:=dm.ext x1;have jE:=dl.ext x1;have l1:=aB.size;clear dF dm dl aB;go_upto_region 3 with(fail);generalize (w1.alloc (.cells (Ins.cells ⟨13,a,y,z⟩) 71))=W1 at dW x1 ed eT jE⊢;refine ni ?_;clear dW l1;intro ic dW l1 lP mX;go_wp21;refine(eh ⟨13,a,y,z⟩ cn s pc 0 g 0 n kc m _ HN.o kM mz.o HO.o ed eT.row).mono ?_;rintro e w2 ⟨e2,bM⟩;replace e2:e=.returned (.int .i64 (-1)):=by rw [e2];rfl
 subst e2;refine EI ?_;clear dW ed eT jE x1 bM lP mX;intro x2 kI gX eE td xQ jZ AO lI lS lG;have nl:a<m.length:=by have:=HN.o;omega
 have JJ:(a:Int)<n:=by omega
 have qh:y<m.length:=by have:=HN.o;omega
 have Nk:(y:Int)<n:=by omega
 have sd:z<m.length:=by have:=HN.o;omega
 have OH:(z:Int)<n:=by omega
 have Gl:=eE.cell a nl;have KS:=eE.frozen;obtain⟨v,hv⟩:=nm' (m[y]);have vO:gq (ax v):=J vj;obtain⟨u,hu⟩:=nm' (m[z]);have EU:gq (ax u):=J Ei;have HE:gq (bt ⟨13,a,y,z⟩ pc m=(pc+1,0,m.set a (gR 13 v u))):=J Eh;have HV:=J hv;have HU:=J hu;clear hv hu;go_upto_region 9 with(fail);refine zy8 ?_
 repeat first|refine bV ?_|refine cF dQ (by intro w1 hS;have d1:=bC (bX kI hS);have d2:=(eE.ext hS).cell y qh;rw [<-HV.o]at d2;have d3:=(eE.ext hS).cell z sd;rw [<-HU.o]at d3;have d4:=si _ q 13 (.func (.func 179) #[] #[]) 10 (td.ext hS) dZ;exact fE) ?_|refine cD dQ ?_
 refine ap (λK hK=>?_);go_simp;go_wp21;refine uW (amf v u vO.o EU.o _) ?_;refine hK.out _ _ (λh=>h) ?_;clear hK K;obtain⟨t,ht⟩:=nm' (gR 13 v u);exact Em
theorem acG (w) (base s g n kc q) (A) (b off cn cap) (c) (pc) (m:List Int) (h:dG w base s g n kc q A b off cn c pc m) (eU:da c pc n=none):
 Calls prog 115 #[.pointer (some ⟨s,0,none⟩),.slice A cn cap,.map (some q)] w λe w'=>e=.returned (.tuple #[])/\Stepped w w' base s g n kc (pc,2,m):=by
 obtain⟨hn,ua,kM,iB,eN,dF,dm,dl,tf,aG,tg,jD,ly,mh,oc⟩:=h;have qy:=dF.lt;have⟨HX,my,HA,HR,rv⟩:=J5' eU eN tf aG tg;clear eU hn iB eN tf aG tg dl;go_enter func115,ntmps115;go_wp21;refine Ba ?_;intro e w1 e1 aB;replace e1:e=.returned (.tuple #[.agg (Ins.cells ⟨0,0,0,0⟩),.bool false]):=by rw [e1,HX.o];rfl
 subst e1;have x1:=aB.alloc (.cells (Ins.cells ⟨0,0,0,0⟩) 71);have ed:=bX dF x1;have eT:=dm.ext x1;have l1:=aB.size;clear dF dm aB;go_upto_region 1 with(fail);generalize (w1.alloc (.cells (Ins.cells ⟨0,0,0,0⟩) 71))=W1 at x1 ed eT⊢;have jZ:=bC ed;have AO:=aj.frozen ed;go_wp21;refine iS results115 rfl ⟨rfl,?_⟩;exact Stepped.halt (Kept.ext x1) ed eT oc _
theorem U8 (w) (base s g n kc q) (A) (b off cn cap) (c) (pc) (m:List Int) (h:dG w base s g n kc q A b off cn c pc m) (x y z:Int) (eU:da c pc n=some ⟨15,x,y,z⟩) (bS:aW ⟨15,x,y,z⟩ cn n=true) (tZ:gC ⟨15,x,y,z⟩ m<0):
 Calls prog 115 #[.pointer (some ⟨s,0,none⟩),.slice A cn cap,.map (some q)] w λe w'=>e=.returned (.tuple #[])/\Stepped w w' base s g n kc (pc,2,m):=by
 obtain⟨hn,ua,kM,iB,eN,dF,dm,dl,tf,aG,tg,jD,ly,mh,oc⟩:=h;have qy:=dF.lt;obtain⟨F,hF⟩:=nm' (gC ⟨15,x,y,z⟩ m);rw [<-hF]at tZ;have⟨HF,HX,HN,HO,my,HA,HR,rv,mz⟩:=J9' hF eU hn iB eN tf aG tg bS;clear eU hn iB eN tf aG tg dl bS hF;go_enter func115,ntmps115;go_wp21;refine Ba ?_;intro e w1 e1 aB;replace e1:e=.returned (.tuple #[.agg (Ins.cells ⟨15,x,y,z⟩),.bool true]):=by rw [e1,HX.o];rfl
 subst e1;have dW:=bN w1 71 (Ins.cells ⟨15,x,y,z⟩);have x1:=aB.alloc (.cells (Ins.cells ⟨15,x,y,z⟩) 71);have ed:=bX dF x1;have eT:=dm.ext x1;have l1:=aB.size;clear dF dm aB;go_upto_region 3 with(fail);generalize (w1.alloc (.cells (Ins.cells ⟨15,x,y,z⟩) 71))=W1 at dW x1 ed eT⊢;refine ni ?_;clear dW l1;intro ic dW l1 lP mX;go_wp21;refine(eh ⟨15,x,y,z⟩ cn s pc 0 g 0 n kc m _ HN.o kM mz.o HO.o ed eT.row).mono ?_;exact ano
theorem U9 (w) (base s g n kc q) (A) (b off cn cap) (c) (pc) (m:List Int) (h:dG w base s g n kc q A b off cn c pc m) (x y z:Int) (eU:da c pc n=some ⟨16,x,y,z⟩) (bS:aW ⟨16,x,y,z⟩ cn n=true) (tZ:gC ⟨16,x,y,z⟩ m<0):
 Calls prog 115 #[.pointer (some ⟨s,0,none⟩),.slice A cn cap,.map (some q)] w λe w'=>e=.returned (.tuple #[])/\Stepped w w' base s g n kc (pc,2,m):=by
 obtain⟨hn,ua,kM,iB,eN,dF,dm,dl,tf,aG,tg,jD,ly,mh,oc⟩:=h;have qy:=dF.lt;obtain⟨F,hF⟩:=nm' (gC ⟨16,x,y,z⟩ m);rw [<-hF]at tZ;have⟨HF,HX,HN,HO,my,HA,HR,rv,mz⟩:=J9' hF eU hn iB eN tf aG tg bS;clear eU hn iB eN tf aG tg dl bS hF;go_enter func115,ntmps115;go_wp21;refine Ba ?_;intro e w1 e1 aB;replace e1:e=.returned (.tuple #[.agg (Ins.cells ⟨16,x,y,z⟩),.bool true]):=by rw [e1,HX.o];rfl
 subst e1;have dW:=bN w1 71 (Ins.cells ⟨16,x,y,z⟩);have x1:=aB.alloc (.cells (Ins.cells ⟨16,x,y,z⟩) 71);have ed:=bX dF x1;have eT:=dm.ext x1;have l1:=aB.size;clear dF dm aB;go_upto_region 3 with(fail);generalize (w1.alloc (.cells (Ins.cells ⟨16,x,y,z⟩) 71))=W1 at dW x1 ed eT⊢;refine ni ?_;clear dW l1;intro ic dW l1 lP mX;go_wp21;refine(eh ⟨16,x,y,z⟩ cn s pc 0 g 0 n kc m _ HN.o kM mz.o HO.o ed eT.row).mono ?_;exact ano
theorem oG {c} {pc} {k} {i:Ins} (h:da c pc k=some i):aW i c.length k=true:=by
 unfold da at h
 split at h
 .split at h
  .cases h;assumption
  .cases h
 .cases h
theorem Ij (i) (m:List Int):gC i m<m.length:=by
 unfold gC u7
 split
 .split<;>omega
 .split
  .split<;>omega
  .omega
theorem O8 {i} {m} (h:lost i m=false) (Gg:i.op=15∨i.op=16):0<=gC i m:=by
 unfold lost at h
 rcases Gg with e|e<;>(simp [e]at h;omega)
theorem L7 (w) (base s g n kc q) (A) (b off cn cap) (c) (pc) (m:List Int) (h:dG w base s g n kc q A b off cn c pc m):
 Calls prog 115 #[.pointer (some ⟨s,0,none⟩),.slice A cn cap,.map (some q)] w λe w'=>e=.returned (.tuple #[])/\Stepped w w' base s g n kc (gT c pc m):=by
 have hn:=h.LB;have tg:=h.XH
 cases eU:da c pc n with
 |none=>
  have e:gT c pc m=(pc,2,m):=by unfold gT;rw [<-hn,eU]
  rw [e];exact acG w base s g n kc q A b off cn cap c pc m h eU
 |some i=>
  have hr:=oG eU;rw [<-tg]at hr;obtain⟨h0,h22,ha,hb,hc,he⟩:=gK hr
  cases hl:lost i m with
  |true=>
   have e:gT c pc m=(pc,2,m):=by unfold gT;rw [<-hn,eU];simp [hl]
   rw [e];have hl':=hl;simp [lost]at hl';obtain⟨op,x,y,z⟩:=i;simp only at hl'
   rcases hl'.2 with rfl|rfl
   .exact U8 w base s g n kc q A b off cn cap c pc m h x y z eU hr hl'.1
   .exact U9 w base s g n kc q A b off cn cap c pc m h x y z eU hr hl'.1
  |false=>
   have e:gT c pc m=bt i pc m:=by unfold gT;rw [<-hn,eU];simp [hl]
   rw [e];have qt:=Ij i m;have tj:=O8 hl;obtain⟨op,x,y,z⟩:=i;simp only at h0 h22 ha hb hc;obtain⟨k,rfl⟩:∃k:Nat,op=k:=⟨op.toNat,by omega⟩;have hk:k<22:=by omega
   have hall:k=0∨k=1∨k=2∨k=3∨k=4∨k=5∨k=6∨k=7∨k=8∨k=9∨k=10∨k=11∨k=12∨k=13∨k=14∨k=15∨k=16∨k=17∨k=18∨k=19∨k=20∨k=21:=by omega
   rcases hall with rfl|rfl|rfl|rfl|rfl|rfl|rfl|rfl|rfl|rfl|rfl|rfl|rfl|rfl|rfl|rfl|rfl|rfl|rfl|rfl|rfl|rfl
   .have CL:=zZ rfl ha
    exact apX w base s g n kc q A b off cn cap c pc m h x y z (by simpa [iD]using he) eU hr
   .have CL:=cV rfl ha
    obtain⟨x,rfl⟩:∃t:Nat,x=t:=⟨Int.toNat x,by omega⟩;have fJ:=zZ rfl hb;exact apY w base s g n kc q A b off cn cap c pc m h x y z ad fJ.1 fJ.2 eU hr
   .have CL:=cV rfl ha
    obtain⟨x,rfl⟩:∃t:Nat,x=t:=⟨Int.toNat x,by omega⟩;have fJ:=cV rfl hb;obtain⟨y,rfl⟩:∃t:Nat,y=t:=⟨Int.toNat y,by omega⟩;exact apZ w base s g n kc q A b off cn cap c pc m h x y z ad ad eU hr
   .have CL:=cV rfl ha
    obtain⟨x,rfl⟩:∃t:Nat,x=t:=⟨Int.toNat x,by omega⟩;have fJ:=cV rfl hb;obtain⟨y,rfl⟩:∃t:Nat,y=t:=⟨Int.toNat y,by omega⟩;have Bq:=cV rfl hc;obtain⟨z,rfl⟩:∃t:Nat,z=t:=⟨Int.toNat z,by omega⟩;exact aqa w base s g n kc q A b off cn cap c pc m h x y z ad ad ad eU hr
   .have CL:=cV rfl ha
    obtain⟨x,rfl⟩:∃t:Nat,x=t:=⟨Int.toNat x,by omega⟩;have fJ:=cV rfl hb;obtain⟨y,rfl⟩:∃t:Nat,y=t:=⟨Int.toNat y,by omega⟩;have Bq:=cV rfl hc;obtain⟨z,rfl⟩:∃t:Nat,z=t:=⟨Int.toNat z,by omega⟩;exact aqb w base s g n kc q A b off cn cap c pc m h x y z ad ad ad eU hr
   .have CL:=cV rfl ha
    obtain⟨x,rfl⟩:∃t:Nat,x=t:=⟨Int.toNat x,by omega⟩;have fJ:=cV rfl hb;obtain⟨y,rfl⟩:∃t:Nat,y=t:=⟨Int.toNat y,by omega⟩;have Bq:=cV rfl hc;obtain⟨z,rfl⟩:∃t:Nat,z=t:=⟨Int.toNat z,by omega⟩;exact aqc w base s g n kc q A b off cn cap c pc m h x y z ad ad ad eU hr
   .have CL:=cV rfl ha
    obtain⟨x,rfl⟩:∃t:Nat,x=t:=⟨Int.toNat x,by omega⟩;have fJ:=cV rfl hb;obtain⟨y,rfl⟩:∃t:Nat,y=t:=⟨Int.toNat y,by omega⟩;have Bq:=cV rfl hc;obtain⟨z,rfl⟩:∃t:Nat,z=t:=⟨Int.toNat z,by omega⟩;exact aqd w base s g n kc q A b off cn cap c pc m h x y z ad ad ad eU hr
   .have CL:=cV rfl ha
    obtain⟨x,rfl⟩:∃t:Nat,x=t:=⟨Int.toNat x,by omega⟩;have fJ:=cV rfl hb;obtain⟨y,rfl⟩:∃t:Nat,y=t:=⟨Int.toNat y,by omega⟩;have Bq:=cV rfl hc;obtain⟨z,rfl⟩:∃t:Nat,z=t:=⟨Int.toNat z,by omega⟩;exact aqe w base s g n kc q A b off cn cap c pc m h x y z ad ad ad eU hr
   .have CL:=cV rfl ha
    obtain⟨x,rfl⟩:∃t:Nat,x=t:=⟨Int.toNat x,by omega⟩;have fJ:=cV rfl hb;obtain⟨y,rfl⟩:∃t:Nat,y=t:=⟨Int.toNat y,by omega⟩;have Bq:=cV rfl hc;obtain⟨z,rfl⟩:∃t:Nat,z=t:=⟨Int.toNat z,by omega⟩;exact aqf w base s g n kc q A b off cn cap c pc m h x y z ad ad ad eU hr
   .have CL:=cV rfl ha
    obtain⟨x,rfl⟩:∃t:Nat,x=t:=⟨Int.toNat x,by omega⟩;have fJ:=cV rfl hb;obtain⟨y,rfl⟩:∃t:Nat,y=t:=⟨Int.toNat y,by omega⟩;have Bq:=cV rfl hc;obtain⟨z,rfl⟩:∃t:Nat,z=t:=⟨Int.toNat z,by omega⟩;exact aqg w base s g n kc q A b off cn cap c pc m h x y z ad ad ad eU hr
   .have CL:=cV rfl ha
    obtain⟨x,rfl⟩:∃t:Nat,x=t:=⟨Int.toNat x,by omega⟩;have fJ:=cV rfl hb;obtain⟨y,rfl⟩:∃t:Nat,y=t:=⟨Int.toNat y,by omega⟩;have Bq:=cV rfl hc;obtain⟨z,rfl⟩:∃t:Nat,z=t:=⟨Int.toNat z,by omega⟩;exact alP w base s g n kc q A b off cn cap c pc m h x y z ad ad ad eU hr
   .have CL:=cV rfl ha
    obtain⟨x,rfl⟩:∃t:Nat,x=t:=⟨Int.toNat x,by omega⟩;have fJ:=cV rfl hb;obtain⟨y,rfl⟩:∃t:Nat,y=t:=⟨Int.toNat y,by omega⟩;have Bq:=cV rfl hc;obtain⟨z,rfl⟩:∃t:Nat,z=t:=⟨Int.toNat z,by omega⟩;exact alQ w base s g n kc q A b off cn cap c pc m h x y z ad ad ad eU hr
   .have CL:=cV rfl ha
    obtain⟨x,rfl⟩:∃t:Nat,x=t:=⟨Int.toNat x,by omega⟩;have fJ:=cV rfl hb;obtain⟨y,rfl⟩:∃t:Nat,y=t:=⟨Int.toNat y,by omega⟩;have Bq:=cV rfl hc;obtain⟨z,rfl⟩:∃t:Nat,z=t:=⟨Int.toNat z,by omega⟩;exact alR w base s g n kc q A b off cn cap c pc m h x y z ad ad ad eU hr
   .have CL:=cV rfl ha
    obtain⟨x,rfl⟩:∃t:Nat,x=t:=⟨Int.toNat x,by omega⟩;have fJ:=cV rfl hb;obtain⟨y,rfl⟩:∃t:Nat,y=t:=⟨Int.toNat y,by omega⟩;have Bq:=cV rfl hc;obtain⟨z,rfl⟩:∃t:Nat,z=t:=⟨Int.toNat z,by omega⟩;exact alS w base s g n kc q A b off cn cap c pc m h x y z ad ad ad eU hr
   .have CL:=cV rfl ha
    obtain⟨x,rfl⟩:∃t:Nat,x=t:=⟨Int.toNat x,by omega⟩;have fJ:=cV rfl hb;obtain⟨y,rfl⟩:∃t:Nat,y=t:=⟨Int.toNat y,by omega⟩;exact alT w base s g n kc q A b off cn cap c pc m h x y z ad ad eU hr
   .have CL:=cV rfl ha
    obtain⟨x,rfl⟩:∃t:Nat,x=t:=⟨Int.toNat x,by omega⟩;have fJ:=cV rfl hb;obtain⟨y,rfl⟩:∃t:Nat,y=t:=⟨Int.toNat y,by omega⟩;have Bq:=cV rfl hc;obtain⟨z,rfl⟩:∃t:Nat,z=t:=⟨Int.toNat z,by omega⟩;have hf0:=tj (.inl rfl);obtain⟨p,hp⟩:∃p:Nat,gC ⟨(15:Nat),x,y,z⟩ m=p:=⟨(gC ⟨(15:Nat),x,y,z⟩ m).toNat,by omega⟩;exact alU w base s g n kc q A b off cn cap c pc m h x y z p ad ad hp eU hr
   .have CL:=cV rfl ha
    obtain⟨x,rfl⟩:∃t:Nat,x=t:=⟨Int.toNat x,by omega⟩;have fJ:=cV rfl hb;obtain⟨y,rfl⟩:∃t:Nat,y=t:=⟨Int.toNat y,by omega⟩;have Bq:=cV rfl hc;obtain⟨z,rfl⟩:∃t:Nat,z=t:=⟨Int.toNat z,by omega⟩;have hf0:=tj (.inr rfl);obtain⟨p,hp⟩:∃p:Nat,gC ⟨(16:Nat),x,y,z⟩ m=p:=⟨(gC ⟨(16:Nat),x,y,z⟩ m).toNat,by omega⟩;exact alV w base s g n kc q A b off cn cap c pc m h x y z p ad ad hp eU hr
   .have CL:=cV rfl ha
    obtain⟨x,rfl⟩:∃t:Nat,x=t:=⟨Int.toNat x,by omega⟩;have fJ:=zZ rfl hb;have Bq:=zZ rfl hc;exact alW w base s g n kc q A b off cn cap c pc m h x y z ad fJ.1 fJ.2 Bq.1 Bq.2 eU hr
   .have CL:=cV rfl ha
    obtain⟨x,rfl⟩:∃t:Nat,x=t:=⟨Int.toNat x,by omega⟩;have fJ:=cV rfl hb;obtain⟨y,rfl⟩:∃t:Nat,y=t:=⟨Int.toNat y,by omega⟩;have Bq:=zZ rfl hc;have hz0:0<=z:=by simpa [iD]using he
    exact alX w base s g n kc q A b off cn cap c pc m h x y z ad ad hz0 Bq.2 eU hr
   .have CL:=GH rfl ha
    obtain⟨x,rfl⟩:∃t:Nat,x=t:=⟨Int.toNat x,by omega⟩;exact alY w base s g n kc q A b off cn cap c pc m h x y z eU hr
   .have CL:=GH rfl ha
    obtain⟨x,rfl⟩:∃t:Nat,x=t:=⟨Int.toNat x,by omega⟩;have fJ:=cV rfl hb;obtain⟨y,rfl⟩:∃t:Nat,y=t:=⟨Int.toNat y,by omega⟩;exact alZ w base s g n kc q A b off cn cap c pc m h x y z ad eU hr
   .have CL:=GH rfl ha
    obtain⟨x,rfl⟩:∃t:Nat,x=t:=⟨Int.toNat x,by omega⟩;have fJ:=cV rfl hb;obtain⟨y,rfl⟩:∃t:Nat,y=t:=⟨Int.toNat y,by omega⟩;exact ama w base s g n kc q A b off cn cap c pc m h x y z ad eU hr
theorem ID:(prog.info? 21).map (λi=>(i.zero,i.size,i.bytes))=some (some (.int .i32 0),1,4):=by kernel_rfl
theorem Dc (l:List Int):eI (bJ l)=true:=by
 induction l with
 |nil=>rfl
 |cons d l ih=>show eI (.int .i32 d::bJ l)=true;simpa [eI,Value.oneCell']using ih
theorem J' (w) (base) (v) (n:Nat) (xs:List Int) (iC:w.ownsRow base 21 1 v n (bJ xs)) (b off m c:Nat) (l:List Int) (hm:m=l.length) (hr:Row w b off (bJ l)) (hn:n+m<=100000) (iH:base<=w.heap.size):
 ∃v' w',(Builtin.append_ #[40,40] 40 #[v,.slice (some ⟨b,off,none⟩) m c]).run prog w=.ok v' w'/\w'.ownsRow base 21 1 v' (n+m) (bJ (xs++l))/\Kept (λi=>v.ownBlock=some i) w w':=by
 obtain⟨i,hi,hz,h1,h2⟩:=info_parts ID;have:=pz (P:=prog) underlying40 hi hz h1 h2 dZ ae w base v n (bJ xs) iC b off m c (bJ l) (by rw [fZ,hm,Nat.mul_one]) hr (Dc l) MB ad iH;rw [show bJ xs++bJ l=bJ (xs++l)by simp [bJ]]at this;exact this
def adJ (w w':World) (v:Value) (n:Nat) (m:List Int):Prop:=∃g c,v=.slice (some ⟨g,0,none⟩) n c/\eo w' w.heap.size g n c m/\al w w'
theorem acu {w w'} {v} {n} {m:List Int} (h:w'.ownsRow w.heap.size 21 1 v n (bJ m)) (hn:0<n) (hx:al w w'):adJ w w' v n m:=by
 rcases h.2 with⟨_,h0⟩|⟨g,c,du,hv,r⟩
 .omega
 .subst hv
  exact⟨g,c,rfl,h,hx⟩
theorem Pf (b off cap) (l) (n:Nat) (hn:n=l.length) (h1:1<=n) (h2:n<=4096) (w:World) (hr:Row w b off (bJ l)):
 Calls prog 73 #[.slice (some ⟨b,off,none⟩) n cap] w λe w'=>∃v,e=.returned v/\adJ w w' v n l:=by
 obtain⟨v2,w2,ki,n9,eC⟩:=J' (w.alloc (.cells #[] 21)) _ _ 0 [] (BD w 21 1) b off n cap l hn (hr.ext (dS w _)) ad aC;have HN:=J hn;clear hn;have heq:=λw=>Lib.run_eql_slice_nil (P:=prog) w 40 21 (some ⟨b,off,none⟩) n cap 0 0 underlying40;simp only [Option.isNone_some]at heq;go_enter func73,ntmps73;go_upto_region 3 with(fail);go_step
 iterate 2 refine kT ?_
 refine cJ rfl (.tmp 5) (.tmp 6) 40 rfl rfl rfl rfl ki ?_;clear ki;go_wp21;go_ret;rw [dU,nB]at n9;exact⟨_,rfl,acu n9 h1 ((dS w _).trans' eC (λi hi e=>by simp [Value.ownBlock]at e;omega))⟩
def J2 (w w':World) (v:Value) (n:Nat) (pc halt:Int) (m:List Int):Prop:=∃g c,v=.agg (ai pc (some ⟨g,0,none⟩) n c halt)/\eo w' w.heap.size g n c m/\al w w'
theorem lE (pc halt) (b off cap) (l) (n) (hn:n=l.length) (h1:1<=n) (h2:n<=4096) (w:World) (hr:Row w b off (bJ l)):
 Calls prog 30 #[.agg (ai pc (some ⟨b,off,none⟩) n cap halt)] w λe w'=>∃v,e=.returned v/\J2 w w' v n pc halt l:=by
 have HN:=J hn;clear hn;have aK:al w _:=(dS w (.cells (ai pc (some ⟨b,off,none⟩) n cap halt) 47)).alloc (.cells (ai 0 none 0 0 0) 47);have hA0:aj _ w.heap.size 47 (ai pc (some ⟨b,off,none⟩) n cap halt):=aj.alloc (bN w _ _) (.cells (ai 0 none 0 0 0) 47);have fU:aj _ (w.heap.size+1) 47 (ai 0 none 0 0 0):=aj.d_ (w.alloc (.cells (ai pc (some ⟨b,off,none⟩) n cap halt) 47)) _ _ _ aC;have aG:=hr.ext aK;have Oz:=aK.size;go_enter func30,ntmps30;go_wp21;refine(Pf b off cap l n HN.o h1 h2 _ aG).mono ?_;rintro e w1 ⟨v1,rfl,g,c1,rfl,eT,aB⟩;have pd:=bX hA0 aB;have gW:=bX fU aB;have hc1:=bC pd;have hf1:=aj.frozen pd;have Nc:=eT.inv.2;obtain⟨_,hgb,_⟩:=Nc;have lA:=hA0.lt;have lR:=fU.lt;have vC:aj (w1.setCell ⟨w.heap.size,1,none⟩ (.slice (some ⟨g,0,none⟩) n c1)) w.heap.size 47 (ai pc (some ⟨g,0,none⟩) n c1 halt):=aj.fw pd 1 (.slice (some ⟨g,0,none⟩) n c1);have nL:=aj.nI gW (p:=⟨w.heap.size,1,none⟩) (show w.heap.size+1≠w.heap.size by omega) (.slice (some ⟨g,0,none⟩) n c1);have eE:=eT.nI (p:=⟨w.heap.size,1,none⟩) (show¬g=w.heap.size by omega) (.slice (some ⟨g,0,none⟩) n c1);have y2:al w (w1.setCell ⟨w.heap.size,1,none⟩ (.slice (some ⟨g,0,none⟩) n c1)):=Kept.setCell (aK.trans aB) ⟨w.heap.size,1,none⟩ _ (λh=>by have:w.heap.size<w.heap.size:=h;omega);go_upto_region 2 with(fail);clear hA0 fU pd gW hc1 hf1 eT;generalize (w1.setCell ⟨w.heap.size,1,none⟩ (.slice (some ⟨g,0,none⟩) n c1))=W2 at vC nL eE y2⊢;have i1:=bH vC;have i2:=bG vC;have i3:=bH nL;have i4:=aj.aJ nL;go_wp21;refine bQ results30 rfl rfl nE Aw (aj.cI nL _ _) ⟨_,rfl,g,c1,rfl,?_,Kept.putAt y2 _ _ _ (λh=>by omega)⟩;exact(ii (eE.kept (Kept.putAt (S:=(·=w.heap.size+1)) (kR _ _) _ _ _ (λ_=>rfl)) ad) ad)
theorem eo.ge {w} {base g n kc} {m} (h:eo w base g n kc m):base<=g:=by
 obtain⟨_,_,hb,_⟩:=h.inv;exact hb
def jO (c:List Ins) (pc halt:Int) (m:List Int):Int×Int×List Int:=if halt=0 then gT c pc m else(pc,halt,m)
theorem R6 {P} {fn} {R} {a} {w} {p j k} {ty t} {g:Nat} {cs:Array Value}
 (Fp:fn.results=#[.cell p ty,.tmp j,.tmp k]) (hd:a.defers=[]) (hp:a.tmps.getD p undef=.pointer (some ⟨g,0,none⟩)) (ha:gB P ty=true) (hs:dw P ty=some cs.size) (hb:aj w g t cs)
 (hR:R (.returned (.tuple #[.agg cs,a.tmps.getD j undef,a.tmps.getD k undef])) w):bodyPost P fn R .ret a w:=by
 exact Sn
structure lm (w:World) (A:Option Addr) (b off cn:Nat) (c:List Ins) (b' bR n:Nat) (pc halt:Int) (m:List Int):Prop where
 ops:OpsAt w
 cA:0<cn->A=some ⟨b,off,none⟩
 row:0<cn->Row w b off (cM c)
 XH:cn=c.length
 cn2:cn<=2048
 LB:n=m.length
 right:dj pc halt n=true
 Dd:∀x∈m,ax x
 Uv:Row w b' bR (bJ m)
theorem lm.ext {w w'} {A} {b off cn} {c} {b' bR n} {pc halt} {m:List Int} (h:lm w A b off cn c b' bR n pc halt m) (hx:al w w'):lm w' A b off cn c b' bR n pc halt m:=
 ⟨h.ops.ext hx,h.cA,λh0=>(h.row h0).ext hx,h.XH,h.cn2,h.LB,h.right,h.Dd,h.Uv.ext hx⟩
theorem fM (pc halt) (A) (n cap) (w):
 Calls prog 53 #[.agg (ai pc A n cap halt)] w λe w'=>e=.returned (.bool (dj pc halt n))/\al w w':=by
 have aK:al w _:=dS w (.cells (ai pc A n cap halt) 47);go_enter func53,ntmps53;go_wp21
 all_goals go_ret
 all_goals refine⟨?_,aK⟩
 all_goals simp [dj]
 all_goals (intros;omega)
theorem N3 (b off cap) (l) (n) (hn:n=l.length) (h2:n<=4096) (w:World) (hr:Row w b off (dc l)):
 Calls prog 218 #[.slice (some ⟨b,off,none⟩) n cap] w λe w'=>adI w w' e n l:=by
 obtain⟨v2,w2,ki,n9,eC⟩:=J9 (w.alloc (.cells #[] 25)) _ _ 0 [] (BD w 25 8) b off n cap l hn (hr.ext (dS w _)) ad aC;have HN:=J hn;clear hn;have heq:=λw=>Lib.run_eql_slice_nil (P:=prog) w 23 25 (some ⟨b,off,none⟩) n cap 0 0 underlying23;simp only [Option.isNone_some]at heq;go_enter func218,ntmps218;go_upto_region 3 with(fail);go_step
 iterate 2 refine kT ?_
 refine cJ rfl (.tmp 5) (.tmp 6) 23 rfl rfl rfl rfl ki ?_;clear ki;go_wp21;go_ret;rw [dU,nB]at n9;exact⟨_,rfl,n9,(dS w _).trans' eC (λi hi e=>by simp [Value.ownBlock]at e;omega)⟩
theorem ji (pc halt words) (m:Dg) (hm:m.ok) (h0:0<=pc/\pc<=1000000) (h1:0<=halt/\halt<=1000000) (h2:0<=words/\words<=1000000) (w:World):
 Calls prog 108 #[.int .i64 pc,.int .i64 halt,.int .i64 words,.agg #[.int .u8 m.x0,.int .u8 m.x1,.int .u8 m.x2,.int .u8 m.x3,.int .u8 m.x4,.int .u8 m.x5,.int .u8 m.x6,.int .u8 m.x7]] w λe w'=>e=.returned (.agg (mM pc halt words m).cells)/\al w w':=by
 have aK:al w _:=(dS w (.cells #[.int .u8 m.x0,.int .u8 m.x1,.int .u8 m.x2,.int .u8 m.x3,.int .u8 m.x4,.int .u8 m.x5,.int .u8 m.x6,.int .u8 m.x7] 25)).alloc (.cells Dg.zero.cells 25);have hA0:aj _ w.heap.size 25 m.cells:=aj.alloc (bN w _ _) (.cells Dg.zero.cells 25);have fU:aj _ (w.heap.size+1) 25 Dg.zero.cells:=aj.d_ (w.alloc (.cells #[.int .u8 m.x0,.int .u8 m.x1,.int .u8 m.x2,.int .u8 m.x3,.int .u8 m.x4,.int .u8 m.x5,.int .u8 m.x6,.int .u8 m.x7] 25)) _ _ _ aC;go_enter func108,ntmps108;go_wp21;generalize ((w.alloc (.cells #[.int .u8 m.x0,.int .u8 m.x1,.int .u8 m.x2,.int .u8 m.x3,.int .u8 m.x4,.int .u8 m.x5,.int .u8 m.x6,.int .u8 m.x7] 25)).alloc (.cells #[.int .u8 0,.int .u8 0,.int .u8 0,.int .u8 0,.int .u8 0,.int .u8 0,.int .u8 0,.int .u8 0] 25))=W at aK hA0 fU⊢;have hW:=fU.lt;have mO:IntKind.u64.wrap pc=pc:=u64_in h0.1 ad;have rB:IntKind.u64.wrap halt=halt:=u64_in h1.1 ad;have hw3:IntKind.u64.wrap words=words:=u64_in h2.1 ad;refine eW (λw1=>al W w1) [(0,2),(1,1),(3,2),(4,1),(6,2),(7,1),(9,1),(2,0),(5,0),(8,0),(10,0),(11,0),(12,0)] ?_;refine eX ?_
 repeat first|refine bV ?_|refine cF dQ amq ?_|refine cD dQ ?_
 refine ap (λK hK=>?_);go_simp;go_wp21;refine kU (gI pc _ h0.1) λw1 aB=>?_;have y1:al W w1:=((kR _ W).drew).trans aB;refine hK.out _ _ (λ_=>y1) ?_;refine ap (λK hK=>?_);go_simp;go_wp21;refine kU (gI halt _ h1.1) λw2 bM=>?_;have y2:=y1.trans bM;refine hK.out _ _ (λ_=>y2) ?_;refine ap (λK hK=>?_);go_simp;go_wp21;refine kU (gI words _ h2.1) λw3 ea=>?_;have y3:=y2.trans ea;refine hK.out _ _ (λ_=>y3) ?_;refine ap (λK hK=>?_);go_simp;refine hK.out _ _ (λ_=>y3.alloc _) ?_;refine ap (λK hK=>?_);go_simp;go_wp21;refine(Ze _ w3.heap.size 0 4 [uo pc,uo halt,uo words,m] aC ?_ _ (λ_=>rfl) (λ_=>?_)).mono ?_
 .intro d hd
  simp at hd
  rcases hd with rfl|rfl|rfl|rfl
  .exact Cx _
  .exact Cx _
  .exact Cx _
  .exact hm
 .exact Row.cR (bN w3 25 (dc [uo pc,uo halt,uo words,m]).toArray)
 rintro e w4 ⟨rfl,eV⟩;have y4:=(y3.alloc _).trans eV;refine hK.out _ _ (λ_=>y4) ?_;have KN:=bX fU y4;have hh4:=bH KN;have t_:=aj.aJ KN;refine fc ?_;go_wp21;refine bQ results108 rfl rfl dK ke (aj.cI KN _ _) ⟨rfl,?_⟩;exact Kept.putAt (aK.trans y4) _ _ _ (λh=>by omega)
theorem pD (d) (l:List Dg):dc (d::l)=d.cells.toList++dc l:=rfl
theorem oX:∀(l:List Dg) (k:Nat) (_:k<l.length) (d:Dg),(dc l).take (k*8)++d.cells.toList++(dc l).drop (k*8+8)=dc (l.set k d)
 |x::l,0,_,d=>by
  rw [List.set_cons_zero,pD,pD,Nat.zero_mul,List.take_zero,nB,dU,List.drop_append_of_le_length aC];simp
 |x::l,k+1,hk,d=>by
  have ih:=oX l k (by simpa using hk) d;rw [List.set_cons_succ,pD,pD,<-ih,show(k+1)*8=8+k*8 by omega,gH,List.take_append,List.drop_append,lY (l:=x.cells.toList) aC,List.drop_of_length_le (l:=x.cells.toList) aC];simp
theorem wK (l) (k) (hk:k<l.length) (d):splice (dc l).toArray (k*8) d.cells=(dc (l.set k d)).toArray:=by
 rw [<-oX l k hk d];simp [splice]
end Mc
section
open Mc
theorem Row.ajM {w w1} {g o n} (hS:al w w1) (hg:g<w.heap.size) (h:Proofs.YtnhelcmddjbafaaGreatDoor.has w g (0+o) n=true):Proofs.YtnhelcmddjbafaaGreatDoor.has w1 g o n=true:=by
 rw [dU]at h;unfold Proofs.YtnhelcmddjbafaaGreatDoor.has at h⊢;rw [hS.block g hg (λf=>f)];exact h
end
namespace Mc
end Mc
section
open Mc
theorem Row.ajq {w w1} {g o n} {c} (hS:al w w1) (hg:g<w.heap.size) (h:gets w g (0+o) n=c):gets w1 g o n=c:=by
 rw [dU]at h;unfold gets at h⊢;rw [hS.block g hg (λf=>f)];exact h
end
namespace Mc
variable{cg cc:Nat}{G:Nat->Nat}
theorem Lj (p g g' v v1 k N M c c':Nat) (L L':List Dg) (w:World) (oE:v1=v+1) (hv:v<12) (hN:N=L.length) (hM:M=L'.length) (hk:2*k+1<N) (kh:k<M) (rT:N<=4096) (hok:∀d∈L,d.ok)
 (hc0:w.cell? ⟨p,1+v,none⟩=some (.slice (some ⟨g,0,none⟩) N c)) (hc1:w.cell? ⟨p,1+v1,none⟩=some (.slice (some ⟨g',0,none⟩) M c')) (hb:aj w g 25 (dc L).toArray) (fJ:aj w g' 25 (dc L').toArray) (qf:p<w.heap.size):
 Calls prog 167 #[.pointer (some ⟨p,0,none⟩),.int .i64 v1,.int .i64 k] w λe w'=>e=.returned (.tuple #[])/\aj w' g' 25 (dc (L'.set k (uN (L.getD (2*k) Dg.zero) (L.getD (2*k+1) Dg.zero)))).toArray/\Kept (·=g') w w':=by
 have T9:(v1:Int) - 1=v:=by omega
 have apN:v1<13:=by omega
 have aqQ:(v1:Int)<13:=by omega
 have Yr:(k:Int)<M:=by omega
 have HV:=J oE;clear oE;have⟨HN,HM,HO,HC⟩:=J4' hN hM hok hc1;clear hN hM hok hc1;obtain⟨k2,eC⟩:=nm' (2*k);obtain⟨k3,iz⟩:=nm' (2*k+1);have pf:k2<L.length:=by have:=HN.o;omega
 have abR:k3<L.length:=by have:=HN.o;omega
 have lP:(k2:Int)<N:=by omega
 have On:(k3:Int)<N:=by omega
 have mO:IntKind.i64.wrap (2*(k:Int))=k2:=by rw [jH];omega
 have rB:IntKind.i64.wrap ((k2:Int)+1)=k3:=by rw [jH];omega
 rw [<-iz,<-eC];have e1:L.getD k2 Dg.zero=L[k2]:=by simp [pf]
 have e2:L.getD k3 Dg.zero=L[k3]:=by simp [abR]
 rw [e1,e2];have o1:=HO.o _ (cK pf);have o2:=HO.o _ (cK abR);obtain⟨Rw,Nc⟩:=(aj.row hb).dig k2 pf;obtain⟨TX,RA⟩:=(aj.row hb).dig k3 abR;generalize L[k2]=X at o1 Nc⊢;generalize L[k3]=Y at o2 RA⊢;clear eC iz;have AP:=aj.lt hb;have apl:=aj.lt fJ;have HO1:=J o1;have HO2:=J o2;clear e1 e2 pf abR o1 o2;go_enter func167,ntmps167;go_wp21;refine eW (λw1=>al w w1) [(0,2),(1,2),(2,2),(3,2),(4,2),(5,1),(6,2),(7,2),(8,2),(9,2),(10,2),(11,1),(12,2),(13,2),(14,2),(15,2),(16,2),(17,1),(18,0),(19,2),(20,0)] ?_;refine eX ?_
 repeat first|refine bV ?_|refine cF dQ (by intro w1 hS;have d1:=(Kept.cell hS (p:=⟨p,1+v1,none⟩) qf (λf=>f)).trans HC.o;have hz1:=Row.ajM hS AP Rw;have hz2:=Row.ajq hS AP Nc;have hz3:=Row.ajM hS AP TX;have hz4:=Row.ajq hS AP RA;exact fE) ?_|refine cD dQ ?_
 clear mO rB Rw TX Nc RA hc0;refine ap (λK hK=>?_);go_simp;go_wp21;refine kU (tI X Y HO1.o HO2.o _) λw1 aB=>?_;have y1:al w w1:=((kR _ w).drew).trans aB;refine hK.out _ _ (λ_=>y1) ?_;clear hK K;obtain⟨Z,hZ⟩:=nm' (uN X Y);rw [<-hZ];have HZ:=J hZ;clear hZ;have hkM:k*8+8<=(dc L').length:=by rw [eZ];have:=HM.o;omega
 have tY:=bX fJ y1;have KU:=bH tY (k*8) 8;rw [cO (by simpa using hkM)]at KU;have Nd:=aj.aJ tY;have zB:=aj.cI tY (k*8) Z.cells;rw [wK L' k (by have:=HM.o;omega) Z]at zB
 repeat refine bV ?_
 refine fc ?_;go_end0;rw [<-HZ.o];exact⟨rfl,zB,Kept.putAt (Kept.ext y1) _ _ _ (λ_=>rfl)⟩
def lh (w:World) (p:Nat) (f:Nat->Value):Prop:=aj w p 256 ((List.range 14).map f).toArray
section
variable {w:World} {p:Nat} {f:Nat->Value} (h:lh w p f)
include w p f h
theorem lh.cell (i) (hi:i<14):w.cell? ⟨p,i,none⟩=some (f i):=by
 rw [bC h];simp [hi]
theorem lh.lt:p<w.heap.size:=aj.lt h
end
theorem lh.ext {w w'} {p} {f} (h:lh w p f) (hk:al w w'):lh w' p f:=bX h hk
theorem lh.set {w} {p} {f} (h:lh w p f) (i) (u):lh (w.setCell ⟨p,i,none⟩ u) p (λj=>if j=i then u else f j):=by
 have:=aj.fw h i u;unfold lh;rw [show((List.range 14).map λj=>if j=i then u else f j).toArray=((List.range 14).map f).toArray.setIfInBounds i u from ?_]
 .exact this
 .apply Array.ext
  .simp
  .intro j h1 h2
   simp at h1;simp
   by_cases e:i=j
   .subst e;simp
   .rw [af (λq=>e q.symm),List.getElem_set_ne e];simp
theorem qP (p n c) (A) (w) (h1:1<=n) (h2:n<=4096) (hc:w.cell? ⟨p,0,none⟩=some (.slice A n c)):
 Calls prog 157 #[.pointer (some ⟨p,0,none⟩)] w λe w'=>e=.returned (.int .i64 (jb n))/\w=w':=by
 obtain⟨H,hH⟩:=nm' (jb n);rw [<-hH];have HH:=J hH;clear hH;go_enter func157,ntmps157;go_wp21;refine uW (th n h1 h2 _) ?_;rw [<-HH.o];go_wp21;go_ret;exact⟨rfl,rfl⟩
theorem ZV (p n c g c1 H) (A) (d) (w:World) (hd:d.ok) (h1:1<=n) (h2:n<=4096) (hH:H=jb n) (qf:p<w.heap.size) (hc:w.cell? ⟨p,0,none⟩=some (.slice A n c)) (hc1:w.cell? ⟨p,1+H,none⟩=some (.slice (some ⟨g,0,none⟩) 1 c1)) (hb:aj w g 25 d.cells):
 Calls prog 109 #[.pointer (some ⟨p,0,none⟩)] w λe w'=>e=.returned (.agg (Yc d H).cells)/\al w w':=by
 have X7:H<=12:=by rw [hH];exact(qw n h1 h2).1
 have aqW:(H:Int)<13:=by omega
 have⟨HH,HD,HC,HC1⟩:=J4' hH hd hc hc1;clear hH hd hc hc1;refine aaF ?_;intro aK fU;go_enter func109,ntmps109;go_wp21;refine uW (qP p n c A _ h1 h2 ((Kept.cell aK (p:=⟨p,0,none⟩) qf (λf=>f)).trans HC.o)) ?_;rw [<-HH.o];have d1:=(Kept.cell aK (p:=⟨p,1+H,none⟩) qf (λf=>f)).trans HC1.o;have JK:=bX hb aK;have hh0:=bH JK;have hg0:=bG JK;have AP:=aj.lt hb;go_wp21;refine kU (Sg d HD.o H X7 _) λw2 bM=>?_;have nL:=bX fU bM;have Wb:=bH nL;have jG:=aj.aJ nL;go_wp21;refine bQ results109 rfl rfl dK ke (aj.cI nL _ _) ⟨rfl,?_⟩;exact Kept.putAt (aK.trans bM) _ _ _ (λh=>by omega)
theorem Sj {P} {ops} {Q} {S} {od} {k} {l} {r} {a} {w} {o} (CP:o.guard=none) (x y:Operand) (T:TypeId)
 (ho:o.op=.makeSlice T x y) {v s v':Value} {w':World} (hx:a.eval x=v) (hy:a.eval y=s)
 (dr:(Instr.makeSlice T v s).run P w=.ok v' w') (hS:S w->S w') (h:eu P ops Q S od r l (a.put o.dst v') w'):eu P ops Q S od ((k,0)::r) (o::l) a w:=by
 have hw:Region.wanted o (yielded ops a.tmps)=true:=by simp [Region.wanted,CP]
 unfold eu;rw [av hw];refine .inl ?_;unfold Oper.wp execOp;simp only [ho,Sem.run_bind,Sem.run_pure,Result.andThen_ok,hx,hy,dr];exact⟨.inr hS,h⟩
theorem XK (n:Nat):dc (List.replicate n Dg.zero)=List.replicate (n*8) (.int .u8 0):=by
 induction n with
 |zero=>simp [dc]
 |succ n ih=>rw [List.replicate_succ,pD,ih,show(n+1)*8=8+n*8 by omega,<-List.replicate_append_replicate];rfl
theorem alv (n:Nat):(madeCells Dg.zero.cells (n*8)).toList=dc (List.replicate n Dg.zero):=by
 rw [XK];apply List.ext_getElem
 .simp [madeCells]
 .intro i h1 h2
  have h8:i%8<8:=Nat.mod_lt _ ad;simp only [madeCells,List.getElem_replicate];simp only [Array.getElem_toList,Array.getElem_map,Array.getElem_range];show(Dg.zero.cells[i%8]!)=_;generalize i%8=j at h8
  rcases(by omega:j=0∨j=1∨j=2∨j=3∨j=4∨j=5∨j=6∨j=7)with rfl|rfl|rfl|rfl|rfl|rfl|rfl|rfl<;>rfl
theorem aev (w) (n:Nat) (h:n<=100000):
 ∃w',(Instr.makeSlice 23 (.int .i64 (n:Int)) (.int .i64 (n:Int))).run prog w=.ok (.slice (some ⟨w.heap.size,0,none⟩) n n) w'/\aj w' w.heap.size 25 (dc (List.replicate n Dg.zero)).toArray/\al w w':=by
 obtain⟨i,hi,hz,h1,h2⟩:=info_parts OL;have hr:=run_makeSlice (P:=prog) w 23 25 i _ underlying23 hi hz .i64 .i64 n n ad (Int.le_refl _) (by rw [h1];simp;omega) Hf ad;simp only [rF]at hr;rw [h1]at hr;refine⟨_,hr,?_,dS w _⟩
 have:(madeCells (Value.agg Dg.zero.cells).cells (n*8))=(dc (List.replicate n Dg.zero)).toArray:=by
  rw [<-alv n];rfl
 rw [this];exact bN w _ _
def qE (l:List Dg) (H v:Nat):List Dg:=(List.range (2^(H - v))).map (fD l v)
def part (l:List Dg) (N v k:Nat):List Dg:=(List.range N).map λj=>if j<k then fD l v j else Dg.zero
section
variable (l:List Dg)
include l
theorem GL (N v:Nat):part l N v 0=List.replicate N Dg.zero:=by
 simp [part,List.map_const']
theorem su (N v k:Nat):(part l N v k).length=N:=by simp [part]
theorem Dv (N v k:Nat):(part l N v k).set k (fD l v k)=part l N v (k+1):=by
 apply List.ext_getElem
 .simp [part]
 .intro j h1 h2
  simp [part]at h1⊢;rw [List.getElem_set]
  by_cases e:k=j
  .subst e;simp
  .rw [af e]
   simp
   by_cases q:j<k
   .rw [av q,av ad]
   .rw [af q,af ad]
theorem LK (H v:Nat):part l (2^(H - v)) v (2^(H - v))=qE l H v:=by
 apply List.ext_getElem
 .simp [part,qE]
 .intro j h1 h2
  simp [part]at h1;simp [part,qE,h1]
end
structure Lv (w:World) (base p cg cc:Nat) (f:Nat->Value) (G:Nat->Nat) (l:List Dg) (H v:Nat):Prop where
 blk:lh w p f
 f0:f 0=.slice (some ⟨cg,0,none⟩) l.length cc
 own:w.ownsRow base 25 8 (.slice (some ⟨cg,0,none⟩) l.length cc) l.length (dc l)
 fl:∀u,u<=v->f (1+u)=.slice (some ⟨G u,0,none⟩) (2^(H - u)) (2^(H - u))
 lv:∀u,u<=v->aj w (G u) 25 (dc (qE l H u)).toArray
 inj:∀u u',u<=v->u'<=v->G u=G u'->u=u'
 nI:∀u,u<=v->base<=G u/\¬G u=p/\¬G u=cg
 bp:base<=p
 pc:¬p=cg
theorem Lv.ext {w w'} {base p} {f} {l} {H v} (h:Lv w base p cg cc f G l H v) (hx:al w w'):Lv w' base p cg cc f G l H v:=
 ⟨h.blk.ext hx,h.f0,aQ h.own hx,h.fl,λu hu=>bX (h.lv u hu) hx,h.inj,h.nI,h.bp,h.pc⟩
theorem Lv.cgl {w} {base p} {f} {l} {H v:Nat} (h:Lv w base p cg cc f G l H v):cg<w.heap.size:=(h.own.lt cg rfl).2
theorem Lv.step {w w'} {base p} {f} {l} {H v g} (h:Lv w base p cg cc f G l H v) (hb:base<=w.heap.size) (hg:w.heap.size<=g) (hk:Kept (·=p) w w')
 (hT:lh w' p (λj=>if j=1+(v+1)then .slice (some ⟨g,0,none⟩) (2^(H - (v+1))) (2^(H - (v+1)))else f j)) (hB:aj w' g 25 (dc (qE l H (v+1))).toArray):
 ∃f' G',Lv w' base p cg cc f' G' l H (v+1):=by
 have hcg:=h.cgl;have qf:=h.blk.lt;refine⟨_,λu=>if u=v+1 then g else G u,hT,?_,dy h.own hk (λx hx=>?_),λu hu=>?_,λu hu=>?_,λu u' hu hu' e=>?_,λu hu=>?_,h.bp,h.pc⟩
 .simp [show¬(0=1+(v+1))by omega,h.f0]
 .have:cg=x:=by simpa [Value.ownBlock]using hx
  have:=h.pc
  omega
 .by_cases e:u=v+1
  .subst e;simp
  .simp only [af e,af (show¬(1+u=1+(v+1))by omega)];exact h.fl u ad
 .by_cases e:u=v+1
  .subst e;simp only [if_true];exact hB
  .simp only [af e]
   exact bK (h.lv u ad) hk (h.nI u ad).2.1
 .by_cases e1:u=v+1
  .by_cases e2:u'=v+1
   .omega
   .simp only [av e1,af e2]at e
    have:=(h.lv u' ad).lt
    omega
  .by_cases e2:u'=v+1
   .simp only [af e1,av e2]at e
    have:=(h.lv u ad).lt
    omega
   .simp only [af e1,af e2]at e
    exact h.inj u u' ad ad e
 .by_cases e:u=v+1
  .simp only [av e];omega
  .simp only [af e];exact h.nI u ad
def jY (w:World) (base p:Nat) (l:List Dg):Prop:=∃cg cc f G,Lv w base p cg cc f G l (jb l.length) (jb l.length)
theorem jY.ext {w w'} {base p} {l} (h:jY w base p l) (hx:al w w'):jY w' base p l:=by
 obtain⟨cg,cc,f,G,h⟩:=h;exact⟨cg,cc,f,G,h.ext hx⟩
theorem jY.low {w} {base Cm p} {l} (h:jY w base p l) (hb:Cm<=base):jY w Cm p l:=by
 obtain⟨cg,cc,f,G,h⟩:=h;exact⟨cg,cc,f,G,h.blk,h.f0,ii h.own hb,h.fl,h.lv,h.inj,λu hu=>⟨ay hb (h.nI u hu).1,(h.nI u hu).2⟩,ay hb h.bp,h.pc⟩
section
variable (l:List Dg)
include l
theorem sf (H v k) (hk:k<2^(H - v)):(qE l H v).getD k Dg.zero=fD l v k:=by simp [qE,hk]
theorem tp (H v:Nat):(qE l H v).length=2^(H - v):=by simp [qE]
theorem RT (H v:Nat):∀d∈qE l H v,d.ok:=by
 intro d hd;simp [qE]at hd;obtain⟨k,_,rfl⟩:=hd;exact Di l v k
theorem ach (H:Nat):qE l H H=[fD l H 0]:=by simp [qE]
end
theorem pQ (H v) (h:v<H):2^(H - v)=2*2^(H - (v+1)):=by rw [show H - v=H - (v+1)+1 by omega,Nat.pow_succ];omega
def Nz (w w':World) (e:Ending) (l:List Dg):Prop:=∃p,e=.returned (.tuple #[.pointer (some ⟨p,0,none⟩),.int .i64 0])/\jY w' w.heap.size p l/\al w w'
theorem Sf (b off cap) (l) (n:Nat) (hn:n=l.length) (h1:1<=n) (h2:n<=4096) (hok:∀d∈l,d.ok) (w:World) (hr:Row w b off (dc l)):
 Calls prog 154 #[.slice (some ⟨b,off,none⟩) n cap] w λe w'=>Nz w w' e l:=by
 have HN:=J hn;have HO:=J hok;clear hn hok;have hb:=qw n h1 h2;obtain⟨H,hH⟩:=nm' (jb n);rw [<-hH]at hb;have HH:=J hH;obtain⟨X7,hnH⟩:=hb;have HP:=J hnH;clear hH hnH;obtain⟨N,hN⟩:=nm' (2^H);have rT:N<=4096:=by rw [hN];exact ay (Nat.pow_le_pow_right ad X7) ae
 have hwN:IntKind.i64.wrap (2^H)=(N:Int):=by
  have:(2:Int)^H=(N:Int):=by rw [hN];simp
  rw [this,jH];omega
 have sO:=J hN;clear hN;go_enter func154,ntmps154;go_wp21;refine uW (th n h1 h2 _) ?_;rw [<-HH.o];go_wp21;refine(N3 b off cap l n HN.o h2 _ hr).mono ?_;rintro e w1 ⟨v1,rfl,zN,aB⟩;obtain⟨cg,cc,rfl,hcg,adU,yv,vG,hl⟩:=yS zN h1;clear hl yv vG;have Og:lh (w1.alloc (.cells #[.slice (some ⟨cg,0,none⟩) n cc,.slice none 0 0,.slice none 0 0,.slice none 0 0,.slice none 0 0,.slice none 0 0,.slice none 0 0,.slice none 0 0,.slice none 0 0,.slice none 0 0,.slice none 0 0,.slice none 0 0,.slice none 0 0,.slice none 0 0] 256)) w1.heap.size (λi=>if i=0 then .slice (some ⟨cg,0,none⟩) n cc else .slice none 0 0):=bN w1 _ _;go_wp21;have K':=aB.alloc (.cells #[.slice (some ⟨cg,0,none⟩) n cc,.slice none 0 0,.slice none 0 0,.slice none 0 0,.slice none 0 0,.slice none 0 0,.slice none 0 0,.slice none 0 0,.slice none 0 0,.slice none 0 0,.slice none 0 0,.slice none 0 0,.slice none 0 0,.slice none 0 0] 256);have n8:=aQ zN (dS w1 (.cells #[.slice (some ⟨cg,0,none⟩) n cc,.slice none 0 0,.slice none 0 0,.slice none 0 0,.slice none 0 0,.slice none 0 0,.slice none 0 0,.slice none 0 0,.slice none 0 0,.slice none 0 0,.slice none 0 0,.slice none 0 0,.slice none 0 0,.slice none 0 0] 256));have hpw:=aB.size;have ape:=adU.lt;generalize (w1.alloc (.cells #[.slice (some ⟨cg,0,none⟩) n cc,.slice none 0 0,.slice none 0 0,.slice none 0 0,.slice none 0 0,.slice none 0 0,.slice none 0 0,.slice none 0 0,.slice none 0 0,.slice none 0 0,.slice none 0 0,.slice none 0 0,.slice none 0 0,.slice none 0 0] 256))=W at Og K' n8⊢;clear zN adU;generalize w1.heap.size=p at Og hpw ape⊢;have qf:=Og.lt;refine eW (λw1=>al W w1) [(0,2),(1,2),(2,2),(4,2),(5,2),(3,0),(6,2),(7,0)] ?_;refine eX ?_
 repeat first|refine bV ?_|refine cF dQ (by intro w1 hS;skip;exact fE) ?_|refine cD dQ ?_
 obtain⟨w2,ki,zB,bM⟩:=aev W.drew N ad;have y2:al W w2:=((kR _ W).drew).trans bM;have hG:W.heap.size=W.drew.heap.size:=rfl;rw [<-hG]at ki zB;clear hG;refine Sj rfl (.tmp 21) (.tmp 21) 23 rfl rfl rfl ki (λ_=>y2) ?_;clear ki;have hT2:=Og.ext y2;have hc2:=hT2.cell 1 ad;have hf2:=aj.frozen hT2;refine fc ?_;have hT3:=hT2.set 1 (.slice (some ⟨W.heap.size,0,none⟩) N N);have Io:=aj.nI zB (p:=⟨p,1,none⟩) (show W.heap.size≠p by omega) (.slice (some ⟨W.heap.size,0,none⟩) N N);have y3:al w (w2.setCell ⟨p,1,none⟩ (.slice (some ⟨W.heap.size,0,none⟩) N N)):=Kept.setCell (K'.trans y2) ⟨p,1,none⟩ _ (λh=>by have:p<w.heap.size:=h;omega);have RG:=dy (aQ n8 y2) (Kept.setCell (S:=(·=p)) (kR _ w2) ⟨p,1,none⟩ (.slice (some ⟨W.heap.size,0,none⟩) N N) (λ_=>rfl)) (λg hg=>by simp [Value.ownBlock]at hg;omega);clear hc2 hf2 hT2 zB Og n8;generalize W.heap.size=G0 at hT3 Io y3 RG qf⊢;generalize w2.setCell ⟨p,1,none⟩ (.slice (some ⟨G0,0,none⟩) N N)=W3 at hT3 Io y3 RG⊢;clear y2 bM K' aB;go_wp21;refine(jo Dg.zero age _ ae _).mono ?_;rintro e w4 ⟨e4,eV⟩;obtain⟨Z,hZ⟩:=nm' adN;replace e4:e=.returned (.agg Z.cells):=by rw [e4,hZ];rfl
 subst e4;have HZ:=J hZ;clear hZ;have Yb:=hT3.ext eV;have hB4:=bX Io eV;have hc4:=Yb.cell 1 ad;have apH:=Yb.lt;simp only [if_true]at hc4;go_wp21;have hT5:lh _ p _:=Yb.ext (dS w4 (.cells Z.cells 25));have hB5:=aj.alloc hB4 (.cells Z.cells 25);have hQ5:=bN w4 25 Z.cells;have y5:=(y3.trans eV).alloc (.cells Z.cells 25);have Gm:=aQ RG (eV.alloc (.cells Z.cells 25));have hgq:=aj.lt hB4;generalize (w4.alloc (.cells #[.int .u8 Z.x0,.int .u8 Z.x1,.int .u8 Z.x2,.int .u8 Z.x3,.int .u8 Z.x4,.int .u8 Z.x5,.int .u8 Z.x6,.int .u8 Z.x7] 25))=W5 at hT5 hB5 hQ5 y5 Gm⊢;clear hc4 Yb hB4 eV hT3 Io y3 RG;generalize w4.heap.size=q at hQ5 apH hgq⊢
 go_loopw [34] (λt34 wr=>∃(k:Nat),k<=N/\t34=.int .i64 k/\aj wr G0 25 (dc (part l N 0 k)).toArray/\Kept (·=G0) W5 wr) (λt34 _=>N - (intOf t34).toNat)
 case atStart=>exact⟨0,by omega,rfl,by rw [GL];exact hB5,kR _ _⟩
 case round=>
  obtain⟨k,hk,rfl,hB,hK5⟩:=hrel;have hTr:lh wr p _:=bK hT5 hK5 ad;have hc1:=hTr.cell 1 ad;simp only [if_true]at hc1;have hpr:=hTr.lt;have hQr:=bK hQ5 hK5 ad;have ie:=hr.lt;have hrr:=(hr.ext y5).kept hK5 ad;have hBl:=aj.lt hB
  by_cases aX:k<N
  .have iI:(k:Int)<N:=by omega
   by_cases Wg:k<n
   .have apz:(k:Int)<n:=by omega
    have pf:k<l.length:=by have:=HN.o;omega
    obtain⟨Rw,Nc⟩:=hrr.dig k pf;have hbr:=hrr.lt;go_upto_region 11 with(fail);refine eW (λw1=>al wr w1) [(0,2),(1,2),(2,2),(3,2),(4,1),(5,2),(6,2),(7,2),(8,2),(9,1),(10,0),(11,2),(12,0)] ?_;refine eX ?_
    repeat first|refine bV ?_|refine cF dQ (by intro w1 hS;have d1:=(Kept.cell hS (p:=⟨p,1,none⟩) hpr (λf=>f)).trans hc1;have d2:=(hrr.ext hS).dig k pf;have d3:=d2.1;have d4:=d2.2;exact fE) ?_|refine cD dQ ?_
    refine ap (λK hK=>?_);go_simp;go_wp21;refine(IQ l[k] (HO.o _ (cK pf)) _).mono ?_;rintro e w6 ⟨e6,qz⟩;obtain⟨V,hV⟩:=nm' (fD l 0 k);replace e6:e=.returned (.agg V.cells):=by rw [e6,hV];simp [fD,List.getElem?_eq_getElem pf]
    subst e6;have HV:=J hV;clear hV;have y6:al wr w6:=((kR _ wr).drew).trans qz;refine hK.out _ _ (λ_=>y6) ?_;clear hK K;have hkM:k*8+8<=(dc (part l N 0 k)).length:=by rw [eZ,su];omega
    have hB6:=bX hB y6;have hh6:=bH hB6 (k*8) 8;rw [cO (by simpa using hkM)]at hh6;have Fm:=aj.aJ hB6;have X6:=aj.cI hB6 (k*8) V.cells;rw [wK _ k (by rw [su];exact aX) V,HV.o,Dv]at X6;rw [<-HV.o]at X6;refine fc ?_;go_wp21;go_roundw
    case rel=>exact⟨k+1,aX,by go_num,X6,Kept.putAt (hK5.trans (Kept.ext y6)) _ _ _ (λ_=>rfl)⟩
    case measure=>simp only [intOf];omega
   .have apz:¬(k:Int)<n:=by omega
    have hql:=aj.lt hQr
    have hnk:fD l 0 k=Z:=by
     have:=HN.o;rw [HZ.o];simp [fD,List.getElem?_eq_none (show l.length<=k by omega)]
    have Nv:=J hnk;clear hnk;go_upto_region 12 with(fail);refine eW (λw1=>al wr w1) [(0,2),(1,2),(2,2),(3,2),(4,1),(5,2),(6,1),(7,2),(8,0)] ?_;refine eX ?_
    repeat first|refine bV ?_|refine cF dQ (by intro w1 hS;have d1:=(Kept.cell hS (p:=⟨p,1,none⟩) hpr (λf=>f)).trans hc1;have d2:=bX hQr hS;have d3:=bH d2;have d4:=bG d2;exact fE) ?_|refine cD dQ ?_
    have hkM:k*8+8<=(dc (part l N 0 k)).length:=by rw [eZ,su];omega
    have y6:al wr wr.drew:=(kR _ wr).drew;have hB6:=bX hB y6;have hh6:=bH hB6 (k*8) 8;rw [cO (by simpa using hkM)]at hh6;have Fm:=aj.aJ hB6;have X6:=aj.cI hB6 (k*8) Z.cells;rw [wK _ k (by rw [su];exact aX) Z,<-Nv.o,Dv]at X6;rw [Nv.o]at X6;refine fc ?_;go_wp21;go_roundw
    case rel=>exact⟨k+1,aX,by go_num,X6,Kept.putAt (hK5.trans (Kept.ext y6)) _ _ _ (λ_=>rfl)⟩
    case measure=>simp only [intOf];omega
  .have ek:k=N:=by omega
   rw [ek]at hB;clear ek
   have cG:aj wr G0 25 (dc (qE l H 0)).toArray:=by
    have:=LK l H 0;rw [Nat.sub_zero,<-sO.o]at this;rw [<-this];exact hB
   have zO:=dy Gm hK5 (λg hg=>by simp [Value.ownBlock]at hg;omega);have hxr:al w wr:=y5.trans' hK5 (λi hi e=>by have:=y5.size;omega)
   have hL0:∃f G,Lv wr w.heap.size p cg cc f G l H 0:=⟨_,λ_=>G0,hTr,by simp [HN.o],by rw [<-HN.o];exact zO,λu hu=>by
    obtain rfl:u=0:=by omega
    simp [sO.o],λu hu=>by
    obtain rfl:u=0:=by omega
    exact cG,λu u' hu hu' _=>by omega,λu hu=>by omega,by omega,by omega⟩
   have HL0:=J hL0;clear hL0 cG hB zO hTr hQr hc1 hrr hK5;go_wp21
   go_loopw [63] (λt63 wr=>∃(v:Nat),v<=H/\t63=.int .i64 v/\(∃f G,Lv wr w.heap.size p cg cc f G l H v)/\al w wr) (λt63 _=>H - (intOf t63).toNat)
   case atStart=>exact⟨0,by omega,rfl,HL0.o,hxr⟩
   case round=>
    obtain⟨wo,rfl⟩:∃wo:World,wo=wr:=⟨_,rfl⟩;obtain⟨v,hv,rfl,⟨f,G,hL⟩,hx⟩:=hrel
    by_cases K_:v<H
    .obtain⟨M,hM⟩:=nm' (2^(H - (v+1)))
     obtain⟨N2,Gi⟩:=nm' (2^(H - v));have hNM:N2=2*M:=by rw [Gi,hM];exact pQ H v K_
     have abL:N2<=4096:=by rw [Gi];exact ay (Nat.pow_le_pow_right ad (show H - v<=12 by omega)) ae
     have hM4:M<=4096:=by omega
     obtain⟨v1,oE⟩:=nm' (v+1);have mO:IntKind.i64.wrap ((v:Int)+1)=v1:=by rw [jH];omega
     have hq1:(N2:Int).tdiv 2=M:=by rw [Int.tdiv_eq_ediv_of_nonneg ad];omega
     have hwM:IntKind.i64.wrap (M:Int)=M:=by rw [jH];omega
     have V7:=hL.blk.cell (1+v) ad;rw [hL.fl v (eH _),<-Gi]at V7;have hpr:=hL.blk.lt;have apN:(v:Int)<13:=by omega
     have akU:(v1:Int)<13:=by omega
     have⟨HV,HM,WQ,SN⟩:=J4' oE hM Gi hNM;clear oE hM Gi hNM;go_upto_region 17 with(fail);refine eW (λw1=>al wo w1) [(0,2),(1,2),(2,2),(3,2),(4,2),(5,2),(6,2),(7,2),(8,1),(9,2),(10,2),(12,2),(13,2),(11,0),(14,2),(15,0)] ?_;refine eX ?_
     repeat first|refine bV ?_|refine cF dQ (by intro w1 hS;have d1:=(Kept.cell hS (p:=⟨p,1+v,none⟩) hpr (λf=>f)).trans V7;exact fE) ?_|refine cD dQ ?_
     obtain⟨w7,hr7,X6,Bv⟩:=aev wo.drew M ad;have y7:al wo w7:=((kR _ wo).drew).trans Bv;have Rr:wo.heap.size=wo.drew.heap.size:=rfl;rw [<-Rr]at hr7 X6;clear Rr;refine Sj rfl (.tmp 76) (.tmp 76) 23 rfl rfl rfl hr7 (λ_=>y7) ?_;clear hr7;have hT7:=hL.blk.ext y7;have hc7:=hT7.cell (1+v1) (by have:=HV.o;omega);have hf7:=aj.frozen hT7;refine fc ?_;obtain⟨U,hU⟩:=nm' (Value.slice (some ⟨wo.heap.size,0,none⟩) M M);rw [<-hU];have hT8:=hT7.set (1+v1) U;have hB8:=aj.nI X6 (p:=⟨p,1+v1,none⟩) (show wo.heap.size≠p by omega) U;have zJ:Kept (·=p) wo (w7.setCell ⟨p,1+v1,none⟩ U):=Kept.setCell (Kept.ext y7) ⟨p,1+v1,none⟩ U (λ_=>rfl);have y8:al w (w7.setCell ⟨p,1+v1,none⟩ U):=Kept.setCell (hx.trans y7) ⟨p,1+v1,none⟩ _ (λh=>by have:p<w.heap.size:=h;omega);have hc8:=hT8.cell (1+v1) (by have:=HV.o;omega);simp only [if_true]at hc8;have hgv:=(hL.nI v (eH _)).2.1;have apn:=(hL.lv v (eH _)).lt;have ajw:=bK (hL.lv v (eH _)) zJ hgv
     have ajX:(w7.setCell ⟨p,1+v1,none⟩ U).cell? ⟨p,1+v,none⟩=some (.slice (some ⟨G v,0,none⟩) N2 N2):=by
      rw [hT8.cell (1+v) ad,af (by have:=HV.o;omega),hL.fl v (eH _),WQ.o]
     clear hc7 hf7 hT7 X6 V7 Bv y7;generalize w7.setCell ⟨p,1+v1,none⟩ U=W8 at hT8 hB8 zJ y8 hc8 ajw ajX⊢;subst hU;have agL:=hT8.lt;have apm:=hB8.lt;have hbo:=hx.size;have vH:wo.heap.size<=wo.heap.size:=eH _;have aoZ:=hbo;obtain⟨g,hg⟩:=nm' wo.heap.size;rw [<-hg]at hT8 hB8 hc8 apm hpr apn⊢;have HG:=J hg;have hgb:w.heap.size<=g:=by omega
     clear hg vH hbo;go_wp21
     go_loopw [89] (λt89 wr=>∃(k:Nat),k<=M/\t89=.int .i64 k/\aj wr g 25 (dc (part l M (v+1) k)).toArray/\Kept (·=g) W8 wr) (λt89 _=>M - (intOf t89).toNat)
     case atStart=>exact⟨0,by omega,rfl,by rw [GL];exact hB8,kR _ _⟩
     case round=>
      obtain⟨k3,iz,rfl,hB9,hK9⟩:=hrel;have ajT:=(Kept.cell hK9 (p:=⟨p,1+v,none⟩) agL (show¬p=g by omega)).trans ajX;have ajU:=(Kept.cell hK9 (p:=⟨p,1+v1,none⟩) agL (show¬p=g by omega)).trans hc8;have hLr:=bK ajw hK9 ad;have agM:p<wr.heap.size:=gw agL hK9.size
      by_cases abS:k3<M
      .have aqK:(k3:Int)<M:=by omega
       have⟨HC1,JT,M2⟩:=J3' ajT ajU abS;clear ajT ajU;go_wp21;refine(Lj p (G v) g v v1 k3 N2 M N2 M (qE l H v) (part l M (v+1) k3) wr HV.o ad (by rw [tp];exact WQ.o) (by rw [su]) (by have:=SN.o;omega) abS abL (RT l H v) HC1.o JT.o hLr hB9 agM).mono ?_;rintro e w9 ⟨rfl,aoU,aoV⟩;go_wp21;go_roundw
       case rel=>
        refine⟨k3+1,abS,by go_num,?_,hK9.trans aoV⟩;rw [<-Dv]
        have e:fD l (v+1) k3=uN ((qE l H v).getD (2*k3) Dg.zero) ((qE l H v).getD (2*k3+1) Dg.zero):=by
         have:=WQ.o;have:=SN.o;rw [sf l H v _ ad,sf l H v _ ad]
         rfl
        rw [e];exact aoU
       case measure=>simp only [intOf];omega
      .have ek3:k3=M:=by omega
       rw [ek3]at hB9;clear ek3
       have aju:aj wr g 25 (dc (qE l H (v+1))).toArray:=by
        have:=LK l H (v+1);rw [<-HM.o]at this;rw [<-this];exact hB9
       have JL:=HG.o;have KY:Kept (·=p) wo wr:=zJ.trans' hK9 (λi hi e=>by omega);have hTT:lh wr p _:=bK hT8 hK9 ad;rw [HV.o,HM.o]at hTT;have adZ:=hL.step aoZ ad KY hTT aju;have zm:=J adZ;have AX:al w wr:=y8.trans' hK9 (λi hi e=>by omega);clear adZ hTT aju hB9;go_wp21;go_roundw
       case rel=>exact⟨v1,by have:=HV.o;omega,rfl,by rw [HV.o];exact zm.o,AX⟩
       case measure=>have:=HV.o;simp only [intOf];omega
    .obtain rfl:v=H:=by omega
     have HL:=J hL;clear hL;go_wp21
     go_ret2
     exact⟨p,rfl,⟨cg,cc,f,G,by rw [<-HN.o,<-HH.o];exact HL.o⟩,hx⟩
theorem jm (base p) (l) (w) (h1:1<=l.length) (h2:l.length<=4096) (h:jY w base p l):
 Calls prog 109 #[.pointer (some ⟨p,0,none⟩)] w λe w'=>e=.returned (.agg (xk l).cells)/\al w w':=by
 obtain⟨cg,cc,f,G,h⟩:=h;have hb:=qw l.length h1 h2;have hc:=h.blk.cell 0 ad;rw [h.f0]at hc;have hc1:=h.blk.cell (1+jb l.length) ad;rw [h.fl _ (eH _),Nat.sub_self,Nat.pow_zero]at hc1;have hB:=h.lv _ (eH _);rw [ach]at hB;exact ZV p l.length cc (G _) 1 (jb l.length) _ (fD l (jb l.length) 0) w (Di _ _ _) h1 h2 rfl h.blk.lt hc hc1 hB
section
variable (A:Option Addr) (b off cap:Nat) (l:List Ins) (n:Nat) (hn:n=l.length) (h1:1<=n) (h2:n<=2048) (hok:∀i∈l,i.ok) (hA:0<n->A=some ⟨b,off,none⟩) (w:World) (hr:0<n->Row w b off (cM l))
include A b off cap l n hn h1 h2 hok hA w hr
theorem rM:
 Calls prog 125 #[.slice A n cap] w λe w'=>Nz w w' e (l.map iJ):=by
 have HN:=J hn;have HO:=J hok;have hr:=hr h1;obtain rfl:=hA h1;have rV:=hr.lt;clear hn hok hA;obtain⟨w0,zT,YF,aK⟩:=RW w n ad;go_enter func125,ntmps125;go_upto_region 3 with(fail);go_step
 iterate 2 refine kT ?_
 refine iy rfl _ _ 23 rfl rfl rfl zT ?_;clear zT;go_wp21
 go_loopw [4,20] (λt4 t20 wr=>∃(k:Nat),k<=n/\t20=.int .i64 k/\wr.ownsRow w.heap.size 25 8 t4 k (dc ((l.take k).map iJ))/\al w wr) (λ_ t20 _=>n - (intOf t20).toNat)
 case atStart=>exact⟨0,de _,rfl,YF,aK⟩
 case round=>
  obtain⟨k,hk,rfl,ho,hx⟩:=hrel;have uR:∀i,i<w.heap.size->(u4:Value).ownBlock=some i->False:=λi hi e=>by have:=(ho.lt i e).1;omega
  have vN:=J uR;clear uR
  by_cases aX:k<n
  .have pf:k<l.length:=by have:=HN.o;omega
   obtain⟨YM,Nh⟩:=(hr.ext hx).ins k pf;have ie:=(hr.ext hx).lt;go_upto_region 7 with(fail);have hx':=hx.alloc (.cells (l[k]).cells 71);have n8:=ho.alloc (.cells (l[k]).cells 71);go_step
   iterate 2 refine kT ?_
   refine wpList_step (λK hK=>?_);go_wp21;refine kU (Gp l[k] (HO.o _ (cK pf)) _) λw1 aB=>?_;refine hK _ _ ?_;clear hK K;obtain⟨v2,w2,ki,n9,eC⟩:=J9 (w1.alloc (.cells (iJ l[k]).cells 25)) _ _ _ ((l.take k).map iJ) ((aQ n8 aB).alloc _) w1.heap.size 0 1 1 [iJ l[k]] rfl (by simpa [dc]using Row.cR (bN w1 25 (iJ l[k]).cells)) ad (by have:=(hx'.trans aB).size;simp;omega)
   iterate 1 refine kT ?_
   refine cJ rfl (.tmp 24) (.tmp 27) 23 rfl rfl rfl rfl ki ?_;clear ki;go_wp21;go_roundw
   case rel=>exact⟨k+1,aX,by go_num,by rw [List.take_succ_eq_append_getElem pf,vQ];exact n9,((hx'.trans aB).alloc _).trans' eC vN.o⟩
   case measure=>simp only [intOf];omega
  .have e:k=n:=by omega
   subst e;rw [lY (Nat.le_of_eq HN.o.symm)]at ho;obtain⟨g,c,rfl,hg,aG,hc,vG,hl⟩:=yS ho h1;have HL:=J hl;clear hl hc vG;go_wp21;refine(Sf g 0 c (l.map iJ) _ HL.o h1 ad (by simp;exact λi _=>Ld i) _ aG).mono ?_;rintro e w1 ⟨p,rfl,ht,aB⟩;go_wp21
   go_ret2
   exact⟨p,rfl,ht.low hx.size,hx.trans aB⟩
theorem Mr:
 Calls prog 79 #[.slice A n cap] w λe w'=>e=.returned (.tuple #[.agg (jz l).cells,.int .i64 0])/\al w w':=by
 have⟨HN,HO,HA,HR⟩:=J4' hn hok hA hr;clear hn hok hA hr;refine aaF ?_;intro aK fU;go_enter func79,ntmps79;go_wp21;refine(rM A b off cap l n HN.o h1 h2 HO.o HA.o _ (λh=>(HR.o h).ext aK)).mono ?_;rintro e w1 ⟨p,rfl,ht,aB⟩;have gW:=bX fU aB;go_wp21;refine(jm _ p (l.map iJ) _ adg adj ht).mono ?_;rintro e w2 ⟨rfl,bM⟩;have nL:=bX gW bM;have Wb:=bH nL;have jG:=aj.aJ nL;go_wp21;refine eB results79 rfl rfl dK ke (aj.cI nL _ _) ⟨rfl,?_⟩;exact Kept.putAt ((aK.trans aB).trans bM) _ _ _ (λh=>by omega)
end
theorem qF (pc halt) (A) (b off cap:Nat) (l:List Int) (n:Nat) (hn:n=l.length) (hg:dj pc halt n=true) (hA:0<n->A=some ⟨b,off,none⟩) (w:World) (hr:0<n->Row w b off (bJ l)):
 Calls prog 107 #[.agg (ai pc A n cap halt)] w λe w'=>Nz w w' e (l.map dD):=by
 obtain⟨h1,h2,h3,h4,h5,h6⟩:=bU hg;have⟨HG,HN,HA,HR⟩:=J4' hg hn hA hr;clear hn hA hr hg;have aK:al w _:=dS w (.cells (ai pc A n cap halt) 47);have hA0:aj _ w.heap.size 47 (ai pc A n cap halt):=bN w _ _;go_enter func107,ntmps107;go_wp21;refine kU (fM pc halt A n cap _) λw1 aB=>?_;rw [HG.o];have pd:=bX hA0 aB;have hc1:=bC pd;have y1:=aK.trans aB;go_wp21;refine(FA A b off cap l n HN.o ad HA.o _ (λh=>(HR.o h).ext y1)).mono ?_;rintro e w2 ⟨v,rfl,ho,bM⟩;obtain⟨g,c,rfl,hg,aG,hc,vG,hl⟩:=yS ho h1;have HL:=J hl;clear hl hc vG hc1;go_wp21;refine(Sf g 0 c (l.map dD) n HL.o h1 ad (by simp;exact λi _=>wY i) _ aG).mono ?_;rintro e w3 ⟨p,rfl,ht,ea⟩;go_wp21
 go_ret2
 exact⟨p,rfl,ht.low (y1.trans bM).size,(y1.trans bM).trans ea⟩
theorem Hd (pc halt) (A) (b off cap:Nat) (l:List Int) (n:Nat) (hn:n=l.length) (hg:dj pc halt n=true) (hA:0<n->A=some ⟨b,off,none⟩) (w:World) (hr:0<n->Row w b off (bJ l)):
 Calls prog 116 #[.agg (ai pc A n cap halt)] w λe w'=>e=.returned (.tuple #[.agg (j0 pc halt l).cells,.int .i64 0])/\al w w':=by
 obtain⟨h1,h2,h3,h4,h5,h6⟩:=bU hg;have⟨HG,HN,HA,HR⟩:=J4' hg hn hA hr;clear hn hA hr hg;obtain⟨D,hD⟩:=nm' (j0 pc halt l);rw [<-hD];have HD:=J hD;clear hD;obtain⟨M,hM⟩:=nm' (kX l);have HM:=J hM;clear hM;have aK:al w _:=(dS w (.cells (ai pc A n cap halt) 47)).alloc (.cells Dg.zero.cells 25);have hA0:aj _ w.heap.size 47 (ai pc A n cap halt):=aj.alloc (bN w _ _) (.cells Dg.zero.cells 25);have fU:aj _ (w.heap.size+1) 25 Dg.zero.cells:=aj.d_ (w.alloc (.cells (ai pc A n cap halt) 47)) _ _ _ aC;go_enter func116,ntmps116;go_wp21;refine(qF pc halt A b off cap l n HN.o HG.o HA.o _ (λh=>(HR.o h).ext aK)).mono ?_;rintro e w1 ⟨p,rfl,ht,aB⟩;have pd:=bX hA0 aB;have hc1:=bC pd;have gW:=bX fU aB;have Bt:=aj.lt gW;have T3:=aj.lt pd;go_wp21;refine eW (λw2=>al w1 w2) [(0,2),(1,1),(2,2),(3,1),(4,2),(5,1),(6,2),(7,2),(8,0),(9,0),(10,0),(11,2)] ?_;refine eX ?_
 repeat first|refine bV ?_|refine cF dQ (by intro w1 hS;have d1:=bC (bX pd hS);exact fE) ?_|refine cD dQ ?_
 refine ap (λK hK=>?_);go_simp;go_wp21;refine(jm _ p (l.map dD) _ adg adj (ht.ext ((kR _ w1).drew))).mono ?_;rintro e w2 ⟨e2,bM⟩;replace e2:e=.returned (.agg M.cells):=by rw [e2,HM.o];rfl
 subst e2;have y2:al w1 w2:=((kR _ w1).drew).trans bM;refine hK.out _ _ (λ_=>y2) ?_;clear hK K;refine ap (λK hK=>?_);go_simp;go_wp21;refine(ji pc halt n M (by rw [HM.o];exact kJ _ _) ad ad ad _).mono ?_;rintro e w3 ⟨e3,ea⟩;replace e3:e=.returned (.agg D.cells):=by rw [e3,HD.o,HM.o,j0,<-HN.o]
 subst e3;have y3:=y2.trans ea;refine hK.out _ _ (λ_=>y3) ?_;clear hK K;have oY:=bX gW y3;have hh3:=bH oY;have Fl:=aj.aJ oY;refine fc ?_;go_wp21;refine eB results116 rfl rfl dK ke (aj.cI oY _ _) ⟨rfl,?_⟩;exact Kept.putAt ((aK.trans aB).trans y3) _ _ _ (λh=>by omega)
structure Ws where (pc halt words:Int) (mem:Dg) (ins:Ins) (pa:Option Addr) (pn pk:Nat) (ra:Option Addr) (rn rk:Nat) (wa:Option Addr) (wn wk:Nat)
abbrev Ws.cells (s:Ws):Array Value:=#[.int .i64 s.pc,.int .i64 s.halt,.int .i64 s.words,.int .u8 s.mem.x0,.int .u8 s.mem.x1,.int .u8 s.mem.x2,.int .u8 s.mem.x3,.int .u8 s.mem.x4,.int .u8 s.mem.x5,.int .u8 s.mem.x6,.int .u8 s.mem.x7,.int .i64 s.ins.op,.int .i64 s.ins.a,.int .i64 s.ins.b,.int .i64 s.ins.c,.slice s.pa s.pn s.pk,.slice s.ra s.rn s.rk,.slice s.wa s.wn s.wk]
attribute [go_sem] Ws.cells
theorem vg (s:Ws) (w:World):
 Calls prog 183 #[.agg s.cells] w λe w'=>e=.returned (.bool (dj s.pc s.halt s.words))/\al w w':=by
 have aK:al w _:=dS w (.cells s.cells 74);go_enter func183,ntmps183;go_wp21
 all_goals go_ret
 all_goals refine⟨aV ?_,aK⟩
 all_goals (rw [Bool.eq_iff_iff];simp [dj];omega)
def Ws.bare (s:Ws):Bool:=decide (s.rn=0)&&decide (s.wn=0)
theorem GV (s:Ws) (w:World):
 Calls prog 184 #[.agg s.cells] w λe w'=>e=.returned (.bool s.bare)/\al w w':=by
 have aK:al w _:=dS w (.cells s.cells 74)
 rcases Nat.eq_zero_or_pos s.rn with h1|h1
 .have b1:(s.rn==0)=true:=by simp [h1]
  have b1':((s.rn:Int)==0)=true:=by simp [h1]
  have H1:=J h1;clear h1
  rcases Nat.eq_zero_or_pos s.wn with h2|h2
  .have b2:(s.wn==0)=true:=by simp [h2]
   have b2':((s.wn:Int)==0)=true:=by simp [h2]
   have H2:=J h2;clear h2;go_enter func184,ntmps184;go_wp21;go_ret;exact⟨by simp [Ws.bare,H1.o,H2.o],aK⟩
  .have b2:(s.wn==0)=false:=by simp;omega
   have b2':((s.wn:Int)==0)=false:=by simp;omega
   have H2:=J h2;clear h2;go_enter func184,ntmps184;go_wp21;go_ret;exact⟨by have:=H2.o;simp [Ws.bare,H1.o];omega,aK⟩
 .have b1:(s.rn==0)=false:=by simp;omega
  have b1':((s.rn:Int)==0)=false:=by simp;omega
  have H1:=J h1;clear h1;go_enter func184,ntmps184;go_wp21;go_ret;exact⟨by have:=H1.o;simp [Ws.bare];omega,aK⟩
def Ws.same (s:Ws):Dg:=mM s.pc (if s.halt=0 then 2 else s.halt) s.words s.mem
theorem G_ (s:Ws) (hm:s.mem.ok) (hr:dj s.pc s.halt s.words=true) (w:World):
 Calls prog 185 #[.agg s.cells] w λe w'=>e=.returned (.agg s.same.cells)/\al w w':=by
 obtain⟨h1,h2,h3,h4,h5,h6⟩:1<=s.words/\s.words<=256/\0<=s.pc/\s.pc<=2048/\0<=s.halt/\s.halt<=2:=by
  simp [dj]at hr
  omega
 clear hr;have HM:=J hm;clear hm;have aK:al w _:=(dS w (.cells s.cells 74)).alloc (.cells Dg.zero.cells 25);have hA0:aj _ w.heap.size 74 s.cells:=aj.alloc (bN w _ _) (.cells Dg.zero.cells 25);have fU:aj _ (w.heap.size+1) 25 Dg.zero.cells:=aj.d_ (w.alloc (.cells s.cells 74)) _ _ _ aC;obtain⟨D,hD⟩:=nm' s.same;rw [<-hD];have HD:=J hD;clear hD
 by_cases h0:s.halt=0
 .have JK:(s.halt==0)=true:=by simp [h0]
  have H0:=J h0;clear h0;go_enter func185,ntmps185;go_wp21;refine(ji s.pc 2 s.words s.mem HM.o ad ad ad _).mono ?_;exact anv
 .have JK:(s.halt==0)=false:=by simp [h0]
  have H0:=J h0;clear h0;go_enter func185,ntmps185;go_wp21;refine(ji s.pc s.halt s.words s.mem HM.o ad ad ad _).mono ?_;exact anv
def Ws.stays (s:Ws) (size:Int):Prop:=¬s.halt=0∨size<=s.pc
theorem Ws.stays.split {s:Ws} {size} (h:s.stays size):(s.halt !=0)=true∨((s.halt !=0)=false/\size<=s.pc):=by
 unfold Ws.stays at h
 by_cases e:s.halt=0
 .exact .inr ⟨by simp [e],h.resolve_left (λf=>f e)⟩
 .exact .inl (by simp [e])
theorem J5 (s:Ws) (p:Dg) (size:Int) (w:World) (hm:s.mem.ok) (IA:1<=size) (pK:size<=2048) (hr:dj s.pc s.halt s.words=true) (dF:s.stays size) (hi:s.ins=⟨0,0,0,0⟩) (hp:s.pn=0) (hb:s.bare=true):
 Calls prog 126 #[.agg #[.int .u8 p.x0,.int .u8 p.x1,.int .u8 p.x2,.int .u8 p.x3,.int .u8 p.x4,.int .u8 p.x5,.int .u8 p.x6,.int .u8 p.x7],.int .i64 size,.agg (mM s.pc s.halt s.words s.mem).cells,.agg s.cells] w λe w'=>e=.returned (.tuple #[.agg s.same.cells,.int .i64 0])/\al w w':=by
 obtain⟨h1,h2,h3,h4,h5,h6⟩:1<=s.words/\s.words<=256/\0<=s.pc/\s.pc<=2048/\0<=s.halt/\s.halt<=2:=by
  simp [dj]at hr
  omega
 have⟨HM,HR,HB,HI⟩:=J4' hm hr hb hi;have Ng:¬(0:Int)<s.pn:=by omega
 have hp1:¬0<s.pn:=by omega
 have hP:=J hp;have tQ:=J dF.split;clear hm hr hb hi hp dF;obtain⟨B,hB⟩:=nm' (mM s.pc s.halt s.words s.mem);rw [<-hB];have HBf:=J hB;clear hB;refine amw ?_;intro aK cG kV fU;go_wp21;refine kU (vg s _) λw1 aB=>?_;rw [HR.o];have y1:=aK.trans aB;have tY:=bX cG aB;have ed:=bX kV aB;have gW:=bX fU aB;clear aK aB cG kV fU;have pJ:=aj.lt ed;have hlR:=aj.lt gW;go_wp21;refine MG ?_;intro K hK;go_wp21;refine(ji s.pc s.halt s.words s.mem HM.o ad ad ad _).mono ?_;rintro e w2 ⟨e2,bM⟩;replace e2:e=.returned (.agg B.cells):=by rw [e2,HBf.o]
 subst e2;have y2:al w1 w2:=((kR _ w1).drew).trans bM;refine hK.out _ _ (λ_=>y2) ?_;clear hK K;refine fc ?_;have gX:=bX ed y2;have nL:=bX gW y2;have hc2:=bC gX;have Wb:=bH gX;have RA:=bG gX;have dW:(s.ins.op==0)=true:=by rw [HI.o];rfl
 have kI:(s.ins.a==0)=true:=by rw [HI.o];rfl
 have hI3:(s.ins.b==0)=true:=by rw [HI.o];rfl
 have hI4:(s.ins.c==0)=true:=by rw [HI.o];rfl
 rcases tQ.o with dF|⟨dF,hsz⟩
 all_goals
  go_wp21;refine kU (GV s _) λw3 ea=>?_;rw [HB.o];have rj:=bX gX ea;have oY:=bX nL ea;have hh3:=bH rj;have hg3:=bG rj;go_wp21;refine kU (G_ s HM.o HR.o _) λw4 eV=>?_;have KN:=bX oY eV;have hh4:=bH KN;have t_:=aj.aJ KN;go_wp21;refine eB results126 rfl rfl dK ke (aj.cI KN _ _) ⟨rfl,?_⟩;exact Kept.putAt (((y1.trans y2).trans ea).trans eV) _ _ _ (λh=>by omega)
abbrev nY:Array Value:=#[.int .i64 0,.int .i64 0,.int .i64 0,.int .u8 0,.int .u8 0,.int .u8 0,.int .u8 0,.int .u8 0,.int .u8 0,.int .u8 0,.int .u8 0,.int .i64 0,.int .i64 0,.int .i64 0,.int .i64 0,.slice none 0 0,.slice none 0 0,.slice none 0 0]
attribute [go_sem] nY
abbrev jJ (pc halt:Int) (k:Nat) (M:Dg):Array Value:=#[.int .i64 pc,.int .i64 halt,.int .i64 k,.int .u8 M.x0,.int .u8 M.x1,.int .u8 M.x2,.int .u8 M.x3,.int .u8 M.x4,.int .u8 M.x5,.int .u8 M.x6,.int .u8 M.x7,.int .i64 0,.int .i64 0,.int .i64 0,.int .i64 0,.slice none 0 0,.slice none 0 0,.slice none 0 0]
attribute [go_sem] jJ
def Kc (pc halt:Int) (l:List Int):Ws:=⟨pc,halt,l.length,kX l,⟨0,0,0,0⟩,none,0,0,none,0,0,none,0,0⟩
theorem O' (A:Option Addr) (b off cap:Nat) (l:List Ins) (n:Nat) (hn:n=l.length) (h1:1<=n) (h2:n<=2048) (hok:∀i∈l,i.ok) (hA:0<n->A=some ⟨b,off,none⟩)
 (pc halt:Int) (A':Option Addr) (b' bR eD:Nat) (m:List Int) (k:Nat) (hk:k=m.length) (hg:dj pc halt k=true) (tX:0<k->A'=some ⟨b',bR,none⟩) (dF:¬halt=0∨(n:Int)<=pc) (w:World) (hr:0<n->Row w b off (cM l)) (Iy:0<k->Row w b' bR (bJ m)):
 Calls prog 118 #[.slice A n cap,.agg (ai pc A' k eD halt)] w λe w'=>e=.returned (.tuple #[.agg (Kc pc halt m).cells,.int .i64 0])/\al w w':=by
 obtain⟨k1,k2,h3,h4,h5,h6⟩:=bU hg;have⟨HG,HN,HO,HA,HR,WN,HA',HR'⟩:=J8' hg hn hok hA hr hk tX Iy
 have tQ:gq ((halt !=0)=true∨((halt !=0)=false/\(n:Int)<=pc)):=J (by
  by_cases e:halt=0
  .exact .inr ⟨by simp [e],dF.resolve_left (λf=>f e)⟩
  .exact .inl (by simp [e]))
 clear hn hA hr hg hok hk tX Iy dF;obtain⟨M,hM⟩:=nm' (kX m);have HM:=J hM;clear hM;have aK:al w _:=(dS w (.cells (ai pc A' k eD halt) 47)).alloc (.cells nY 74);have hA0:aj _ w.heap.size 47 (ai pc A' k eD halt):=aj.alloc (bN w _ _) (.cells nY 74);have fU:aj _ (w.heap.size+1) 74 nY:=aj.d_ (w.alloc (.cells (ai pc A' k eD halt) 47)) _ _ _ aC;go_enter func118,ntmps118;go_wp21;refine(rM A b off cap l n HN.o h1 h2 HO.o HA.o _ (λh=>(HR.o h).ext aK)).mono ?_;rintro e w1 ⟨p,rfl,ht,aB⟩;have pd:=bX hA0 aB;have gW:=bX fU aB;have hc1:=bC pd;have y1:=aK.trans aB;clear aK aB hA0 fU;go_wp21;refine(qF pc halt A' b' bR eD m k WN.o HG.o HA'.o _ (λh=>(HR'.o h).ext y1)).mono ?_;rintro e w2 ⟨q,rfl,hq,bM⟩;have vC:=bX pd bM;have nL:=bX gW bM;have y2:=y1.trans bM;have JG:=bN w2 178 #[.pointer (some ⟨q,0,none⟩)];have ea:=dz w2 (.cells #[.pointer (some ⟨q,0,none⟩)] 178);have M':=bX vC ea;have oY:=bX nL ea;have YL:=hq.ext ea;have y3:=y2.trans ea;clear hc1;go_wp21;generalize (w2.alloc (.cells #[.pointer (some ⟨q,0,none⟩)] 178))=W at JG M' oY YL y3⊢;have hlA:=aj.lt M';have hlR:=aj.lt oY;have ig:=aj.lt JG;generalize w2.heap.size=h2s at JG ig⊢;clear vC nL pd gW ea hq ht y1 y2 bM;refine ahN ?_;intro y;refine gL ?_ ?_
 .refine cw (λK hK=>?_);go_simp
  go_wp21;refine(jm _ q (m.map dD) _ adf adh (YL.ext y)).mono ?_;rintro e w4 ⟨e4,eV⟩;replace e4:e=.returned (.agg M.cells):=by rw [e4,HM.o];rfl
  subst e4;have y4:al W w4:=y.trans eV;refine hK.out _ _ (λ_=>y4) ?_;clear hK K;refine o8 ?_;intro K hK;refine hK.out _ _ (λ_=>y4.alloc _) ?_;clear hK K;refine JQ ?_;have TN:=bX M' (y4.alloc (.cells (jJ pc halt k M) 74));have uM:=bX oY (y4.alloc (.cells (jJ pc halt k M) 74));have y5:=y3.trans (y4.alloc (.cells (jJ pc halt k M) 74));have AJ:=bN w4 74 (jJ pc halt k M);have Wi:=aj.lt AJ;generalize (w4.alloc (.cells (jJ pc halt k M) 74))=W5 at TN uM y5 AJ Wi⊢;generalize w4.heap.size=c9 at AJ Wi⊢;have hc5:=bC TN;have hh5:=bH uM;have yH:=aj.aJ uM;have hh6:=bH AJ;have hg6:=bG AJ
  rcases tQ.o with dF|⟨dF,hsz⟩
  all_goals
   exact anM
 .refine cw (λK hK=>?_);go_simp
  refine hK.out _ _ (λ_=>y.alloc _) ?_;clear hK K;refine o8 ?_;intro K hK;go_wp21;refine(jm _ q (m.map dD) _ adf adh (YL.ext (y.alloc _))).mono ?_;rintro e w4 ⟨e4,eV⟩;replace e4:e=.returned (.agg M.cells):=by rw [e4,HM.o];rfl
  subst e4;have y4:al W w4:=(y.alloc _).trans eV;refine hK.out _ _ (λ_=>y4) ?_;clear hK K;have rT:aj w4 W.heap.size 74 nY:=bX (bN W.drew 74 nY) eV;have hh4:=bH rT;have t_:=aj.aJ rT;have hl4:=aj.lt rT;refine JQ ?_;have yp:al W (putAt w4 W.heap.size 0 (jJ pc halt k M)):=Kept.putAt y4 _ _ _ (λh=>by omega);have TN:=bX M' yp;have uM:=bX oY yp;have y5:=y3.trans yp;have AJ:aj (putAt w4 W.heap.size 0 (jJ pc halt k M)) W.heap.size 74 (jJ pc halt k M):=aj.cI rT _ _;have Wi:=aj.lt AJ;generalize (putAt w4 W.heap.size 0 (jJ pc halt k M))=W5 at TN uM y5 AJ Wi⊢;generalize W.heap.size=c9 at AJ Wi⊢;have hc5:=bC TN;have hh5:=bH uM;have yH:=aj.aJ uM;have hh6:=bH AJ;have hg6:=bG AJ
  rcases tQ.o with dF|⟨dF,hsz⟩
  all_goals
   exact anM
end Mc
open Sq
section
variable{M:Nat}
variable {w:World} {N:Nat} {c:Pc} {p:Pr} {A:Option Addr} {n cap:Nat} {F:SF}
theorem lJ.mono {F:EF} (h:lJ w N A n F) (hM:N<=M):lJ w M A n F:=by
 obtain⟨h1,h2,b,off,h3,h4⟩:=h;exact⟨h1,h2,b,off,h3,h4.mono hM⟩
theorem jc.mono (h:jc w N A n F) (hM:N<=M):jc w M A n F:=by
 obtain⟨h1,h2,b,off,h3,h4⟩:=h;exact⟨h1,h2,b,off,h3,h4.mono hM⟩
theorem lZ.mono (h:lZ w N c p) (hM:N<=M):lZ w M c p:=⟨h.name,h.Df,h.aP,h.BI,h.cd.mono hM,h.vars.mono hM,h.start.mono hM,h.turn.mono hM,h.params.mono hM,h.ci.mono hM,h.silent,h.sy,h.quiet.mono hM,h.bP.mono hM⟩
end
open Go.Deep Go.ChangeShapes Go.WideShapes
section
variable {H:Type} {enc:TypeId×Value->H} {P:Program} {w:World} {base:Nat} {held:Bool}
def light (P:Program) (t:TypeId) (d:DataW H):Prop:=(d.weights P t).all (·<=reachBytes)=true
theorem light_each:∀{ts:List TypeId} {l:List (DataW H)} (_:(DataW.weightsEach P ts l).all (·<=reachBytes)=true) (i:Nat) (t:TypeId) (d:DataW H),ts[i]?=some t->l[i]?=some d->light P t d
 |[],_,_,i,_,_,ht,_=>absurd ht aC
 |_::_,[],_,i,_,_,_,hd=>absurd hd aC
 |t::ts,x::l,h,i,t',d,ht,hd=>by
  rw [DataW.weightsEach,List.all_append,fz]at h
  cases i with
  |zero=>
   simp only [List.getElem?_cons_zero,Option.some.injEq]at ht hd;subst ht hd;exact h.1
  |succ i=>exact light_each h.2 i t' d (by simpa using ht) (by simpa using hd)
end
theorem Row.head {w} {b off} {c r} (h:Row w b off (c++r)):Proofs.YtnhelcmddjbafaaGreatDoor.has w b off c.length=true/\gets w b off c.length=c.toArray:=by
 obtain⟨h1,h2⟩:=h.sub 0 c.length aC;refine⟨h1,h2.trans ?_⟩;rw [qW,List.take_left]
section
variable {H:Type} {enc:TypeId×Value->H} {w:World} {base:Nat} {held:Bool}
theorem uB:prog.bytesOf 223=112:=by kernel_rfl
end
def Ro:List Int:=[0,0,1,1,1,2,2,2,2,2,2,2,2,2,2,2,2,2]
def BL:List Int:=[1,2,1,0,0,0,1,0,2,1]
theorem zz {w:World} (h:w.ShapedOpen prog):5<w.heap.size:=by
 obtain⟨h1,-⟩:=h;have hs:(((begin prog (λ_ _=>0) default).world.heap[5]?).bind Obj.row?).isSome=true:=by kernel_rfl
 obtain⟨⟨zero,t⟩,hz⟩:=Option.isSome_iff_exists.1 hs;obtain⟨cs,hc,-⟩:=h1 5 zero t (of_decide_eq_true bd) hz;exact(Array.getElem?_eq_some_iff.1 hc).1

