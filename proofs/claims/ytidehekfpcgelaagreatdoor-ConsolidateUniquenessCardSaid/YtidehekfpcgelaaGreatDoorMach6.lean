/- An abstract machine for runs of the program, proved sound against the model: part 6. No conditions. -/
import Derived.Test.YtidehekfpcgelaaGreatDoorMach5
import Derived.Shelf.SortM.Plain
import Derived.Shelf.SortM.SortNone
import Derived.Shelf.SlSortCmp.NoneTotal
import Derived.Shelf.SlicesG.CompactI
import Derived.Lib.QuietBelow
import GoSem.ClaimJoined
import Derived.Calls
import Derived.RunT
import Derived.Below
import Derived.Shelf.Strings.FuncGrows
import Derived.Laws.RangeAny
import Derived.Lib.Join
import Derived.Lib.Repeat
import Derived.Lib.SlTrimSet
namespace Go.Ev
open Go Go.Sort Go.Proofs
section
variable{P:Program}{G:eN}{pl:Pl}{M:dB}{h:AHeap}{w w':World}
theorem th(hr:cL pl M h w){id:Nat}{p:Place}{sz:Nat}{op:Bool}{ep:Nat}{xs xs':List AV}{c c':Array Value}{t:TypeId}(hp:pl id=some p)(hg:h.get id=some (.row sz op ep xs))
  (hb:w.heap[p.blk]?=some (.cells c t (0,0)))(hw:w'.heap[p.blk]?=some (.cells c' t (0,0)))(hcs:c'.size=c.size)(hlen:xs'.length=xs.length)(hel:∀x,x∈xs'→x.cells.length=sz∧Sc x)
  (hcell:∀i x j y,xs'[i]?=some x→x.cells[j]?=some y→VRel pl M y (c'.getD (i*sz+j) undef))(hs:WSame w w')(hsz:w.heap.size≤w'.heap.size)(hk:∀b,b<w.heap.size→b≠p.blk→w'.heap[b]?=w.heap[b]?):
  cL pl M (h.put id (.row sz op ep xs')) w'∧dX h pl M w (h.put id (.row sz op ep xs')) pl M w':=by
 have ho:=hr.obj id p _ hp hg;rw[hb]at ho;simp only[bp]at ho;obtain⟨h1,h2,h3,h4,h5,h6,h7,h8⟩:=ho;have e:=yP (pl:=pl) hp;have:=cL.change (p':=p) (o':=.row sz op ep xs') hr hp hg (.inl rfl) hs hsz hk (.inl rfl) (wB.1 hw).1 (by
  rw[e,hw];simp only[bp];refine⟨h1,h2,by omega,by omega,trivial,h6,fun e=>by simp_all,⟨?_,hel,fun i x j y q1 q2=>?_⟩⟩
  ·grind[cases InMem]
  simp_all)
 simp_all
variable{β:Type}[Inhabited β]
theorem rk{enc:β→Value}{blk off n:Nat}{d:Array β}{os:Array Obj}{c:Array Value}{t:TypeId}{fr:Nat×Nat}(hb:w.heap[blk]?=some (.cells c t fr)):
  (grow (putRow enc (Sort.ahead w n) blk off d) os).heap[blk]?=some (.cells (putCells enc off d c) t fr):=by
 grind[grow,putRow,mapBlock,Sort.ahead,onCells]
theorem kp{enc:β→Value}{blk off n:Nat}{d:Array β}{os:Array Obj}{b:Nat}(hb:b<w.heap.size)(hne:b≠blk):
  (grow (putRow enc (Sort.ahead w n) blk off d) os).heap[b]?=w.heap[b]?:=by
 simp only[grow,putRow,mapBlock,Sort.ahead];grind
theorem oU{enc:β→Value}{blk off n:Nat}{d:Array β}{os:Array Obj}:WSame w (grow (putRow enc (Sort.ahead w n) blk off d) os):=⟨rfl,rfl,rfl,Nat.le_add_right _ _⟩
theorem BP{enc:β→Value}{blk off n:Nat}{d:Array β}{os:Array Obj}:w.heap.size≤(grow (putRow enc (Sort.ahead w n) blk off d) os).heap.size:=by simp_all
theorem oV{enc:β→Value}{d:Array β}{c:Array Value}{k:Nat}(hk:k<d.size)(hc:k<c.size):(putCells enc 0 d c).getD k undef=enc d[k]!:=by simp_all[putCells]
theorem qG(hr:cL pl M h w){id ep len sz:Nat}{op:Bool}{cap:Option Nat}{xs:List AV}{x:Value}(hv:VRel pl M (.slice id ep 0 len cap) x)(hg:h.get id=some (.row sz op ep xs))(hl:0<len):
  ∃p c t cap',pl id=some p∧w.heap[p.blk]?=some (.cells c t (0,0))∧x=.slice (some ⟨p.blk,0,none⟩) len cap'∧InMem pl M c 0 sz xs∧0<sz∧p.blk<w.heap.size:=by
 cases hv with
 | slice hp he hle hk ha=>
  rename_i cap' a p;have ho:=hr.obj id p _ hp hg;cases hb:w.heap[p.blk]? with
  |none=>grind[bp]
  |some ob=>
   rw[hb]at ho;cases ob<;>simp only[bp]at ho
   rename_i c t fr;obtain⟨h1,h2,h3,h4,h5,h6,h7,h8⟩:=ho;subst h5;obtain⟨k1,_⟩:=ha (by omega);have k2:a=⟨p.blk,0,none⟩:=by grind
   exact⟨p,c,t,_,hp,hb,by rw[k2],h8,h6,(wB.1 hb).1⟩
def dR(zs:List Int):List Int:=zs.mergeSort fun x y=>decide (x≤y)
theorem lK(zs:List Int):(dR zs).Perm zs:=List.mergeSort_perm ..
theorem D0(zs:List Int):(dR zs).Pairwise (fun a b=>a≤b):=by
 have:=List.pairwise_mergeSort (le:=fun x y:Int=>decide (x≤y)) (by grind) (by grind) zs;exact this.imp (by simp)
theorem DQ{c:Array Value}{sz:Nat}{xs:List AV}(hm:InMem pl M c 0 sz xs){i:Nat}{x:AV}(hx:xs[i]?=some x){j:Nat}(hj:j<sz):i*sz+j<c.size∧∃y,x.cells[j]?=some y∧VRel pl M y (c.getD (i*sz+j) undef):=by
 have h1:=hm.fit;have hi:=(gF.1 hx).1;have h2:=(hm.elem x (bC hx)).1;have h3:(i+1)*sz≤xs.length*sz:=eH _ hi;rw[jM]at h3;refine⟨by omega,x.cells[j],by simp_all,?_⟩;have:=hm.cell i x j _ hx (lD (by omega:j<x.cells.length));simp_all
theorem BC{f:FuncId}(hE:∀vs w,(callFunc f vs).run P w=.ok (.enter f vs) w)
  (hC:∀(blk off cap:Nat)(zs:List Int)(w:World),Holds (Value.int .i64) w blk off zs.toArray→blk<w.heap.size→zs.length<4611686018427387904→
   Calls P f #[.slice (some ⟨blk,off,none⟩) zs.length cap] w fun e w'=>e=.returned (.tuple #[])∧∃n os,w'=grow (putRow (Value.int .i64) (Sort.ahead w n) blk off (zs.mergeSort fun x y=>decide (x≤y)).toArray) os)
  {id ep:Nat}{op:Bool}{cap:Option Nat}(zs:List Int)(hg:h.get id=some (.row 1 op ep (zs.map bo)))(hz:0<zs.length)(hb:zs.length<4611686018427387904):
  aI P G f [.slice id ep 0 zs.length cap] h (fun v h'=>v=.tuple []∧h'=h.put id (.row 1 op ep ((dR zs).map bo))):=by
 intro pl M w vs hG hr hv;obtain⟨a,rfl,hv1⟩:=TJ hv;obtain⟨p,c,t,cap',hp,hbl,rfl,hm,_,hlt⟩:=qG hr hv1 hg hz;have hcell:∀j z,zs[j]?=some z→j<c.size∧c.getD j undef=.int .i64 z:=by
  intro j z hj;have hx:(zs.map bo)[j]?=some (bo z):=by simp_all
  obtain⟨q1,y,q2,q3⟩:=DQ hm hx (j:=0) (by omega);rw[Nat.mul_one,qJ]at q1 q3;simp[bo,AV.cells]at q2;subst q2;refine⟨q1,?_⟩;cases hq:c.getD j undef<;>rw[hq]at q3<;>cases q3
  rfl
 refine .inl ⟨hE _ _,Calls.mono (hC p.blk 0 cap' zs w (fun j hj=>?_) hlt hb) fun e w' ⟨he,n,os,hw⟩=>?_⟩
 ·have hj':j<zs.length:=by omega
  obtain⟨q1,q2⟩:=hcell j zs[j] (lD hj');rw[gr];refine⟨?_,?_⟩
  ·simp only[World.cell?,hbl];simp only[Option.isSome_none,gu,if_false];rw[Fu q1];simp_all
  grind[World.frozen?]
 ·refine⟨.tuple #[],.tuple [],_,he,⟨rfl,rfl⟩,pl,M,rC,?_⟩;have hlen:(dR zs).length=zs.length:=(lK zs).length_eq;have hw1:w'.heap[p.blk]?=some (.cells (putCells (Value.int .i64) 0 (dR zs).toArray c) t (0,0)):=by rw[hw];exact rk hbl
  obtain⟨r1,r2⟩:=th (w':=w') (xs':=(dR zs).map bo) hr hp hg hbl hw1 (by simp[putCells]) (by simp_all) (fun x hx=>by
    obtain⟨z,_,rfl⟩:=fE.1 hx;exact⟨rfl,fun y hy=>by simp[bo,AV.cells]at hy;subst hy;rfl⟩) (fun i x j y q1 q2=>by
    rw[qt]at q1;obtain⟨z,e1,rfl⟩:=Ft.1 q1;have hi:=(gF.1 e1).1;cases j with
    |succ j=>grind[bo,AV.cells]
    |zero=>
     simp[bo,AV.cells]at q2;subst q2;rw[Nat.mul_one,qJ,oV (by omega) (hcell i zs[i] (lD (by omega))).1];have:(dR zs).toArray[i]! =z:=by simp_all
     rw[this];exact .int _ _) (by grind[oU]) (by simp_all) (fun b hb hne=>by grind[kp])
  exact⟨r1,r2,an _⟩
def bb(zs:List Int):List Int:=Lib.compact zs
theorem xr(zs:List Int):(bb zs).length≤zs.length:=by grind[bb,Lib.compact,Lib.compactUpTo]
theorem wv{f:FuncId}(hE:∀vs w,(callFunc f vs).run P w=.ok (.enter f vs) w)
  (hC:∀(blk off cap:Nat)(zs:List Int)(w:World),Holds (Value.int .i64) w blk off zs.toArray→zs.length≤9223372036854775807→zs.length≤cap→
   Calls P f #[.slice (some ⟨blk,off,none⟩) zs.length cap] w fun e w'=>e=.returned (.slice (some ⟨blk,off,none⟩) (Lib.compact zs).length cap)∧∃q,w'=putRow (Value.int .i64) (Sort.ahead w q) blk off (Lib.compact zs++List.replicate (zs.length-(Lib.compact zs).length) 0).toArray)
  {id ep:Nat}{op:Bool}(zs:List Int)(hg:h.get id=some (.row 1 op ep (zs.map bo)))(hz:0<zs.length)(hb:zs.length<4611686018427387904):
  aI P G f [.slice id ep 0 zs.length none] h (fun v h'=>v=.slice id ep 0 (bb zs).length none∧h'=h.put id (.row 1 op ep ((bb zs++List.replicate (zs.length-(bb zs).length) 0).map bo))):=by
 intro pl M w vs hG hr hv;obtain⟨a,rfl,hv1⟩:=TJ hv;obtain⟨p,c,t,cap',hp,hbl,rfl,hm,_,hlt⟩:=qG hr hv1 hg hz;have hcell:∀j z,zs[j]?=some z→j<c.size∧c.getD j undef=.int .i64 z:=by
  intro j z hj;have hx:(zs.map bo)[j]?=some (bo z):=by simp_all
  obtain⟨q1,y,q2,q3⟩:=DQ hm hx (j:=0) (by omega);rw[Nat.mul_one,qJ]at q1 q3;simp[bo,AV.cells]at q2;subst q2;refine⟨q1,?_⟩;cases hq:c.getD j undef<;>rw[hq]at q3<;>cases q3
  rfl
 have hle:=xr zs;have hcap:zs.length≤cap':=by grind[cases VRel]
 generalize hnew:bb zs++List.replicate (zs.length-(bb zs).length) 0=ns;have hnl:ns.length=zs.length:=by grind
 refine .inl ⟨hE _ _,Calls.mono (hC p.blk 0 cap' zs w (fun j hj=>?_) (by omega) hcap) fun e w' ⟨he,n,hw⟩=>?_⟩
 ·have hj':j<zs.length:=by omega
  obtain⟨q1,q2⟩:=hcell j zs[j] (lD hj');rw[gr];refine⟨?_,?_⟩
  ·simp only[World.cell?,hbl];simp only[Option.isSome_none,gu,if_false];rw[Fu q1];simp_all
  grind[World.frozen?]
 ·have hw2:w'=grow (putRow (Value.int .i64) (Sort.ahead w n) p.blk 0 ns.toArray) #[]:=by rw[hw,grow_empty];congr 2
  have hrel:VRel pl M (.slice id ep 0 (bb zs).length none) (.slice (some ⟨p.blk,0,none⟩) (bb zs).length cap'):=by
   cases hv1 with
   |slice hp he hl hk ha=>
    refine .slice hp he (by omega) hk fun e=>?_
    grind
  refine⟨_,_,_,he,⟨rfl,rfl⟩,pl,M,hrel,?_⟩;have hw1:w'.heap[p.blk]?=some (.cells (putCells (Value.int .i64) 0 ns.toArray c) t (0,0)):=by grind[rk]
  obtain⟨r1,r2⟩:=th (w':=w') (xs':=ns.map bo) hr hp hg hbl hw1 (by simp[putCells]) (by simp_all) (fun x hx=>by
    obtain⟨z,_,rfl⟩:=fE.1 hx;exact⟨rfl,fun y hy=>by simp[bo,AV.cells]at hy;subst hy;rfl⟩) (fun i x j y q1 q2=>by
    rw[qt]at q1;obtain⟨z,e1,rfl⟩:=Ft.1 q1;have hi:=(gF.1 e1).1;cases j with
    |succ j=>grind[bo,AV.cells]
    |zero=>
     simp[bo,AV.cells]at q2;subst q2;rw[Nat.mul_one,qJ,oV (by omega) (hcell i zs[i] (lD (by omega))).1];have:ns.toArray[i]! =z:=by simp_all
     rw[this];exact .int _ _) (by grind[oU]) (by simp_all) (fun b hb hne=>by grind[kp])
  exact⟨r1,r2,an _⟩
theorem D6{f:FuncId}(hE:∀vs w,(callFunc f vs).run P w=.ok (.enter f vs) w)
  (hC:∀(p:Option Addr)(cap:Nat)(w:World),Calls P f #[.slice p 0 cap] w fun e w'=>e=.returned (.tuple #[])∧w'=w):bQ P G f [.nils] (.tuple []):=by
 intro h pl M w vs hG hr hv;obtain⟨a,rfl,hv1⟩:=TJ hv;cases hv1
 exact .inl ⟨hE _ _,Calls.mono (hC none 0 w) fun e w' ⟨he,hw⟩=>⟨.tuple #[],.tuple [],h,he,⟨rfl,rfl⟩,pl,M,rC,by simp_all[StepF.refl]⟩⟩
theorem vB{f:FuncId}{g:Fn}(hE:∀vs w,(callFunc f vs).run P w=.ok (.enter f vs) w)
  (hC:∀(p:Option Addr)(cap:Nat)(fv:Value)(w:World),Calls P f #[.slice p 0 cap,fv] w fun e w'=>e=.returned (.tuple #[])∧w'=w):bQ P G f [.nils,.func g [] []] (.tuple []):=by
 intro h pl M w vs hG hr hv;obtain⟨a,b,rfl,hv1,hv2⟩:=Bw hv;cases hv1
 exact .inl ⟨hE _ _,Calls.mono (hC none 0 b w) fun e w' ⟨he,hw⟩=>⟨.tuple #[],.tuple [],h,he,⟨rfl,rfl⟩,pl,M,rC,by simp_all[StepF.refl]⟩⟩
def Em{α:Type}(cmp:α→α→Int)(a b:α):Bool:=decide (cmp a b<0)
theorem BD{f g:FuncId}{sz:Nat}(hGT:jW G)(hE:∀vs w,(callFunc f vs).run P w=.ok (.enter f vs) w)(hg2:∀args w,(callFunc g args).run P w=.ok (.enter g args) w)
  (hC:∀(m:Nat)(enc:Fin (m+1)→List Value)(cf:Fin (m+1)→Fin (m+1)→Int)(blk off cap:Nat)(d:Array (Fin (m+1)))(w:World),(∀x,(enc x).length=sz)→(∀x,∀v∈enc x,v.oneCell'=true)→SWO (ltOf cf)→
   CmpLays P g #[] enc sz cf blk off d.size w→HoldsK enc sz w blk off d→blk<w.heap.size→d.size<4611686018427387904→
   Calls P f #[.slice (some ⟨blk,off,none⟩) d.size cap,.func (.func g) #[] #[]] w fun e w'=>e=.returned (.tuple #[])∧∃d' n os,PermIn 0 d.size d d'∧SortedIn (ltOf cf) 0 d.size d'∧w'=sortWorldK enc sz w blk off n d' os)
  {α:Type}[Inhabited α](enc:α→AV)(cmp:α→α→Int)(hO:SWO (Em cmp))(hag:∀a,∃cs,enc a=.agg cs)(htop:∀a,(enc a).top=0)
  (l:List α)(hcmp:∀a,a∈l→∀b,b∈l→bQ P G g [enc a,enc b] (.int .i64 (cmp a b)))
  {oid ep:Nat}{op:Bool}{cap:Option Nat}(hg:h.get oid=some (.row sz op ep (l.map enc)))(hz:0<l.length)(hb:l.length<4611686018427387904):
  aI P G f [.slice oid ep 0 l.length cap,.func (.func g) [] []] h (fun v h'=>∃l':List α,(l'.Perm l∧l'.Pairwise fun a b=>Em cmp b a=false)∧v=.tuple []∧h'=h.put oid (.row sz op ep (l'.map enc))):=by
 intro pl M w vs hG hr hv;obtain⟨a,fv,rfl,hv1,hv2⟩:=Bw hv;have e2:=zg hv2;subst e2;obtain⟨p,c,t,cap',hp,hbl,rfl,hm,hsz0,hlt⟩:=qG hr hv1 hg hz;obtain⟨m,hm1⟩:∃m,l.length=m+1:=⟨l.length-1,by omega⟩
 have hfit:=hm.fit;rw[cK,gr,hm1]at hfit;have helem:∀i:Fin (m+1),(l.map enc)[i.1]?=some (enc l[i.1]!):=fun i=>by
  have:=i.2;rw[qt,lD (by omega),getElem!_pos l i.1 (by omega)];rfl
 have hmul:∀i:Fin (m+1),i.1*sz+sz≤(m+1)*sz:=fun i=>by have:=eH sz (Nat.succ_le_of_lt i.2);rwa[qu]at this
 generalize hcof:(fun i:Fin (m+1)=>(List.range sz).map fun j=>c.getD (i.1*sz+j) undef)=cellsOf;have cl:∀i,(cellsOf i).length=sz:=fun i=>by rw[←hcof];simp
 have cg:∀i j,j<sz→(cellsOf i)[j]?=some (c.getD (i.1*sz+j) undef):=fun i j hj=>by rw[←hcof];simp[hj]
 generalize hd:(Array.ofFn (n:=m+1) id)=d;have hds:d.size=m+1:=by rw[←hd];simp
 have hdg:∀j (hj:j<m+1),d[j]! =⟨j,hj⟩:=fun j hj=>by rw[getElem!_pos d j (by omega)];subst hd;simp
 have hflat:∀(dk:Array (Fin (m+1))),dk.size=m+1→∀i j,i<m+1→j<sz→(flatK cellsOf sz dk)[i*sz+j]! =c.getD ((dk[i]!).1*sz+j) undef:=fun dk hdk i j hi hj=>by
  have h1:i*sz+j<dk.size*sz:=by have:=eH sz (Nat.succ_le_of_lt hi);rw[qu]at this;rw[hdk];omega
  rw[get_flatK cellsOf sz dk _ h1];have h2:(i*sz+j)/sz=i:=by rw[Nat.mul_comm,Nat.mul_add_div hsz0,Nat.div_eq_of_lt hj,qJ]
  have h3:(i*sz+j)%sz=j:=by rw[Nat.mul_comm,Nat.mul_add_mod,Nat.mod_eq_of_lt hj]
  rw[h2,h3,getElem!_pos _ j (by rw[cl];exact hj)];have:=cg (dk[i]!) j hj;rw[lD (by rw[cl];exact hj)]at this;simpa using this
 have hH:HoldsK cellsOf sz w p.blk 0 d:=by
  intro k hk;rw[size_flatK,hds]at hk;have hi:k/sz<m+1:=Nat.div_lt_of_lt_mul (by rw[Nat.mul_comm];exact hk);have hj:k%sz<sz:=Nat.mod_lt _ hsz0;have hk2:k/sz*sz+k%sz=k:=by rw[Nat.mul_comm];exact Nat.div_add_mod k sz
  have:=hflat d hds (k/sz) (k%sz) hi hj;rw[hdg _ hi,hk2]at this;rw[this,gr];have hkc:k<c.size:=by omega
  refine⟨?_,by simp[World.frozen?,hbl]⟩;simp only[World.cell?,hbl];simp only[Option.isSome_none,gu,if_false];rw[Fu hkc];simp[Array.getD,hkc]
 have hrelE:∀(i:Fin (m+1)) cs,enc l[i.1]! =.agg cs→cs.length=sz∧(∀y,y∈cs→cO y=true)∧∀(j:Nat)(y:AV),cs[j]?=some y→VRel pl M y (c.getD (i.1*sz+j) undef):=by
  intro i cs hcs;have h1:=hm.elem _ (bC (helem i));rw[hcs]at h1;refine⟨h1.1,h1.2,fun j y hj=>?_⟩;have:=hm.cell i.1 _ j y (helem i) (by rw[hcs];exact hj);rwa[gr]at this
 have hone:∀i,∀v∈cellsOf i,v.oneCell'=true:=by
  intro i v hvm;obtain⟨j,hj,e⟩:=sd hvm;rw[cl]at hj;have h1:=cg i j hj;rw[lD (by rw[cl];exact hj),e]at h1;obtain⟨cs,hcs⟩:=hag l[i.1]!;obtain⟨k1,k2,k3⟩:=hrelE i cs hcs;have:=k3 j cs[j] (lD (by omega));cases h1
  exact this.one (k2 _ (DC _))
 have hmemL:∀i:Fin (m+1),l[i.1]!∈l:=fun i=>by
  have:=i.2;rw[getElem!_pos l i.1 (by omega)];exact DC _
 have hlays:CmpLays P g #[] cellsOf sz (fun i j=>cmp l[i.1]! l[j.1]!) p.blk 0 d.size w:=by
  intro n os dk hdk x y;generalize hW:sortWorldK cellsOf sz w p.blk 0 n dk os=W;have hWo:∀b,b<w.heap.size→b≠p.blk→W.heap[b]?=w.heap[b]?:=fun b h1 h2=>by rw[←hW];exact kp h1 h2
  have hrW:cL (fun _=>none) M AHeap.none W:=qS (pl:=fun _=>none) (n:=0) (g:=AHeap.none.get) ⟨fun _ _ h=>by simp at h,fun _ _ _ h=>by simp at h,fun _ _ h=>by simp at h,fun _ _ _ _ h=>by simp at h,fun b c' hM=>by
   obtain⟨t',fr,q⟩:=hr.imm b c' hM;refine⟨t',fr,?_⟩;rw[hWo b (hr.memLt hM) (fun e=>by have:=hr.sep oid p hp;rw[←e,hM]at this;cases this)];exact q,fun _ _ h=>by simp at h⟩
  have hrel:∀i:Fin (m+1),VRel (fun _=>none) M (enc l[i.1]!) (.agg (cellsOf i).toArray):=by
   intro i;obtain⟨cs,hcs⟩:=hag l[i.1]!;obtain⟨k1,k2,k3⟩:=hrelE i cs hcs;have ht:=htop l[i.1]!;rw[hcs]at ht ⊢;refine .agg (by simp[cl,k1]) k2 fun j y hj=>?_
   have hj':j<sz:=by rw[←k1];exact(gF.1 hj).1
   have e:(cellsOf i).toArray.getD j undef=c.getD (i.1*sz+j) undef:=by
    have:=cg i j hj';rw[g0,ov,this];rfl
   rw[e];exact(k3 j y hj).none (kU.1 ht y (bC hj))
  have hc:=hcmp _ (hmemL x) _ (hmemL y) AHeap.none (fun _=>none) M W #[.agg (cellsOf x).toArray,.agg (cellsOf y).toArray] (hG.none hGT) hrW ⟨rfl,fun j z hj=>by
   match j,hj with
   |0,hj=>cases hj;exact hrel x
   |1,hj=>cases hj;exact hrel y⟩
  rcases hc with⟨h1,h2⟩|⟨cv,w',v,h',h1,h2,h3⟩
  ·refine Calls.mono h2 fun e w' ⟨cv,v,h',k1,k2,pl',M',k3,k4,k5,k6⟩=>?_
   obtain⟨k2,_⟩:=k2;subst k2;cases k3
   refine⟨k1,?_⟩;obtain⟨q,hq⟩:=regrown_of_below (w:=W) (w':=w') ⟨k5.os,k5.tape,k5.out,k5.size,fun b hb=>k5.kept b hb fun id p h=>by simp at h⟩;refine⟨w'.drawn-W.drawn,q.os,?_⟩;have hd1:w'.drawn=q.d:=by rw[hq];rfl
   have hd2:=k5.drawn;have:redrawn W q.d=W.drewN (w'.drawn-W.drawn):=by
    show({W with drawn:=q.d}:World)={W with drawn:=W.drawn+(w'.drawn-W.drawn)}
    congr 1;omega
   rw[←this];exact hq
  ·rw[hg2]at h1;cases h1
 refine .inl ⟨hE _ _,?_⟩;have hcall:=hC m cellsOf (fun i j=>cmp l[i.1]! l[j.1]!) p.blk 0 cap' d w cl hone ⟨fun x=>hO.irrefl _,fun x y z=>hO.trans _ _ _,fun x y z=>hO.ntrans _ _ _⟩ hlays hH hlt (by omega);rw[show d.size=l.length by omega]at hcall;refine Calls.mono hcall fun e w' ⟨he,d',n,os,hP,hS,hw⟩=>?_
 obtain⟨hp1,_,hp3⟩:=hP;have hd's:d'.size=m+1:=by omega
 have hperm:d'.toList.Perm d.toList:=by
  have e1:d'.extract 0 l.length=d':=by rw[show l.length=d'.size by omega];exact Array.extract_size
  have e2:d.extract 0 l.length=d:=by rw[show l.length=d.size by omega];exact Array.extract_size
  rwa[e1,e2]at hp3
 have hdl:d.toList.map (fun i=>l[i.1]!)=l:=by
  apply List.ext_getElem?;intro i;by_cases hi:i<l.length
  ·rw[qt,Array.getElem?_toList,Fu (by omega),lD hi];have:=hdg i (by omega);rw[getElem!_pos d i (by omega)]at this;rw[this];show some (l[i]!)=some l[i]
   rw[getElem!_pos l i hi]
  ·rw[List.getElem?_eq_none (by simp;omega),List.getElem?_eq_none (by omega)]
 have hl':(d'.toList.map (fun i=>l[i.1]!)).length=l.length:=by simp;omega
 refine⟨.tuple #[],.tuple [],_,he,⟨d'.toList.map (fun i=>l[i.1]!),⟨?_,?_⟩,rfl,rfl⟩,pl,M,rC,?_⟩
 ·have:=hperm.map (fun i=>l[i.1]!);rwa[hdl]at this
 ·rw[CQ];intro i j hi hj hij;have hi':i<d'.size:=by simpa using hi
  have hj':j<d'.size:=by simpa using hj
  have:=hS i j (bP _) hij (by omega);rw[getElem!_pos d' i hi',getElem!_pos d' j hj']at this;simpa[Em,ltOf]using this
 ·have hw1:w'.heap[p.blk]?=some (.cells (putCells id 0 (flatK cellsOf sz d') c) t (0,0)):=by rw[hw];exact rk hbl
  obtain⟨r1,r2⟩:=th (w':=w') (xs':=(d'.toList.map (fun i=>l[i.1]!)).map enc) hr hp hg hbl hw1 (by simp[putCells]) (by simp;omega) (fun x hx=>by
    obtain⟨z,h1,rfl⟩:=fE.1 hx;obtain⟨i,_,rfl⟩:=fE.1 h1;exact hm.elem _ (bC (helem i))) (fun i x j y q1 q2=>by
    rw[qt,qt,Array.getElem?_toList]at q1;obtain⟨z,e1,rfl⟩:=Ft.1 q1;obtain⟨k,e2,rfl⟩:=Ft.1 e1;have hi:i<d'.size:=(wB.1 e2).1;obtain⟨cs,hcs⟩:=hag l[k.1]!;obtain⟨k1,k2,k3⟩:=hrelE k cs hcs;rw[hcs]at q2;have hj:j<sz:=by rw[←k1];exact(gF.1 q2).1
    have hb1:i*sz+j<(m+1)*sz:=by have:=eH sz (Nat.succ_le_of_lt (show i<m+1 by omega));rw[qu]at this;omega
    rw[oV (by rw[size_flatK,hd's];exact hb1) (by omega)];have:=hflat d' hd's i j (by omega) hj;have e3:d'[i]! =k:=by rw[getElem!_pos d' i hi];rw[Fu hi]at e2;simpa using e2
    rw[e3]at this;show VRel pl M y (flatK cellsOf sz d')[i*sz+j]!
    rw[this];exact k3 j y q2) (by rw[hw];exact oU) (by rw[hw];exact BP) (fun b hb hne=>by rw[hw];exact kp hb hne)
  exact⟨r1,r2,an _⟩
end
end Go.Ev
namespace Go.Ev
open Go
theorem yt(a b:Int):ao (kW a b) 0=ao a b:=by
 unfold kW;cases h:ao a b with
 |true=>rfl
 |false=>cases h2:ao b a<;>rfl
noncomputable def ox(l:List PSpan)(d:Int):Nat:=(l.takeWhile fun s=>ao s.from_ d).length
theorem E7(l:List PSpan)(d:Int):ox l d≤l.length:=by
 induction l with
 |nil=>simp[ox]
 |cons a r ih=>grind[ox,List.takeWhile_cons]
def sF(l:List PSpan):Prop:=l.Pairwise fun a b=>a.from_≤b.from_
theorem BW{d:Int}:∀{l:List PSpan},sF l→∀k,k<l.length→(ao (gD l k).from_ d=true↔k<ox l d)
 |[],_,k,h=>by simp_all
 | a::r,hs,k,h=>by
  obtain⟨h1,h2⟩:=kJ.1 hs;unfold ox;rw[List.takeWhile_cons];cases q:ao a.from_ d with
  | true=>
   simp only[if_true,cM];cases k with
   |zero=>grind[gD]
   |succ k=>
    have:=BW (d:=d) h2 k (by simp_all);rw[show gD (a::r) (k+1)=gD r k from rfl,this];grind[ox]
  |false=>
   simp only[gu,if_false,gT,qX,iff_false,Bool.not_eq_true];have hd:=af q;grind[fp,j6]
noncomputable def Jp(l:List PSpan)(d:Int):Bool:=ao (Int.ofNat (ox l d)) (Int.ofNat l.length)&&ak (kW (gD l (ox l d)).from_ d) 0
theorem PZ{l:List PSpan}(h:l.Pairwise fun a b=>a.to<b.from_)(h2:∀s,s∈l→s.from_<s.to):sF l:=by
 induction l with
 |nil=>exact .nil
 |cons a r ih=>
  obtain⟨h3,h4⟩:=kJ.1 h;refine kJ.2 ⟨fun b hb=>?_,ih h4 fun s hs=>h2 s (eQ _ hs)⟩;grind
structure NrmS(l:List PSpan):Prop where
 gap:l.Pairwise fun a b=>a.to<b.from_
 ok:∀s,s∈l→0≤s.from_∧s.from_<s.to∧s.to≤1048577
theorem NrmS.sort{l:List PSpan}(h:NrmS l):sF l:=PZ h.gap fun s hs=>(h.ok s hs).2.1
theorem Io:∀{l:List PSpan}{b:Int},l.Pairwise (fun a b=>a.to<b.from_)→(∀s,s∈l→b≤s.from_∧s.from_<s.to∧s.to≤1048577)→b≤1048577→Int.ofNat l.length≤1048577-b
 |[],b,_,_,hb=>by simp_all
 |a::r,b,h,h2,hb=>by
  obtain⟨h3,h4⟩:=kJ.1 h;have h5:=h2 a (eG ..);have:=Io (l:=r) (b:=b+1) h4 (fun s hs=>by grind) (by omega);grind
theorem NrmS.len{l:List PSpan}(h:NrmS l):l.length≤1048577:=by
 have:=Io (b:=0) h.gap h.ok (by omega);grind
noncomputable def iP(l:List PSpan)(d:Int):Bool:=Jp l d||(ao 0 (Int.ofNat (ox l d))&&ao d (gD l (ox l d-1)).to)
theorem Ee(a b:Int):CR a b=max a b:=by
 unfold CR;cases h:ao a b with
 |true=>have:=ae h;grind
 |false=>have:=af h;grind
theorem Je(a b:Int):N6 a b=min a b:=by
 unfold N6;cases h:ao b a with
 |true=>have:=ae h;grind
 |false=>have:=af h;grind
noncomputable abbrev XQ(s:PSpan):PSpan:=⟨CR s.from_ 0,N6 s.to 1048577⟩
noncomputable abbrev ZX(s:PSpan):Bool:=ao (CR s.from_ 0) (N6 s.to 1048577)
noncomputable def js:List PSpan→List PSpan
 |[]=>[]
 |s::r=>match ZX s with|true=>XQ s::js r|false=>js r
theorem vU{s:PSpan}{r:List PSpan}(h:ZX s=true):js (s::r)=XQ s::js r:=by grind[js]
theorem vq{s:PSpan}{r:List PSpan}(h:ZX s=false):js (s::r)=js r:=by grind[js]
theorem Dg:∀(l:List PSpan),(js l).length≤l.length
 |[]=>by simp[js]
 |s::r=>by
  have:=Dg r;cases h:ZX s with
  |true=>grind[vU]
  |false=>grind[vq]
theorem BJ:∀{l:List PSpan}{s:PSpan},s∈js l→0≤s.from_∧s.from_<s.to∧s.to≤1048577
 | a::r,s,hs=>by
  cases h:ZX a with
  |true=>
   rw[vU h]at hs;rcases ed.1 hs with e|e
   ·subst e;have h2:=ae h;grind[Ee,Je]
   ·exact BJ e
  |false=>rw[vq h]at hs;exact BJ hs
def memB(l:List PSpan)(d:Int):Bool:=l.any fun s=>decide (s.from_≤d∧d<s.to)
def PJ(d:Int):Bool:=decide (0≤d∧d<1048577)
theorem nb(d:Int):memB [] d=false:=rfl
theorem eE(a:PSpan)(l:List PSpan)(d:Int):memB (a::l) d=(decide (a.from_≤d∧d<a.to)||memB l d):=rfl
theorem zT(l r:List PSpan)(d:Int):memB (l++r) d=(memB l d||memB r d):=by simp[memB]
theorem jr{l:List PSpan}{d:Int}:memB l d=true↔∃s,s∈l∧s.from_≤d∧d<s.to:=by simp[memB]
theorem N8{l r:List PSpan}(h:l.Perm r)(d:Int):memB l d=memB r d:=by
 rw[DD,jr,jr];grind
theorem Df:∀(l:List PSpan)(d:Int),memB (js l) d=(PJ d&&memB l d)
 |[],d=>by simp[js,memB]
 | a::r,d=>by
  have ih:=Df r d;have e:∀b:Bool,(b=decide (0≤d∧d<1048577∧a.from_≤d∧d<a.to))→(b||(PJ d&&memB r d))=(PJ d&&memB (a::r) d):=fun b hb=>by grind[eE,PJ]
  cases h:ZX a with
  |true=>
   rw[vU h,eE,ih];refine e _ ?_;simp only[Ee,Je];grind
  |false=>
   rw[vq h,ih];have h2:=af h;simp only[Ee,Je]at h2;grind
theorem NrmS.tail{a:PSpan}{r:List PSpan}(h:NrmS (a::r)):NrmS r:=⟨(kJ.1 h.gap).2,fun s hs=>h.ok s (eQ _ hs)⟩
theorem NrmS.low{a x:PSpan}{r:List PSpan}(h:NrmS (a::r))(hx:x∈r):a.to<x.from_:=(kJ.1 h.gap).1 x hx
theorem NrmS.head{a:PSpan}{r:List PSpan}(h:NrmS (a::r)):0≤a.from_∧a.from_<a.to∧a.to≤1048577:=h.ok a (eG ..)
theorem yb:NrmS []:=⟨.nil,fun s h=>by grind⟩
theorem rO{a:PSpan}{r:List PSpan}(h:NrmS (a::r)):memB (a::r) a.from_=true:=by grind[eE,cases NrmS]
theorem Gs{a:PSpan}{r:List PSpan}(h:NrmS (a::r)){d:Int}(hd:memB (a::r) d=true):a.from_≤d:=by
 obtain⟨s,h1,h2,h3⟩:=jr.1 hd;rcases ed.1 h1 with e|e
 ·simp_all
 ·have:=h.low e;grind[cases NrmS]
theorem QL{a:PSpan}{r:List PSpan}(h:NrmS (a::r)):memB (a::r) a.to=false:=by
 cases q:memB (a::r) a.to with
 |false=>rfl
 |true=>
  obtain⟨s,h1,h2,h3⟩:=jr.1 q;rcases ed.1 h1 with e|e
  ·simp_all
  ·have:=h.low e;omega
theorem Gr{a:PSpan}{r:List PSpan}(h:NrmS (a::r))(d:Int):memB r d=(decide (a.to≤d)&&memB (a::r) d):=by
 rw[eE];by_cases h1:a.to≤d
 ·grind
 ·have:memB r d=false:=by
   cases q:memB r d with
   |false=>rfl
   |true=>
    obtain⟨s,h2,h3,h4⟩:=jr.1 q;have:=h.low h2;omega
  grind
theorem zE:∀{r s:List PSpan},NrmS r→NrmS s→(∀d,memB r d=memB s d)→r=s
 |[],[],_,_,_=>rfl
 |[],b::s,_,hs,h=>by grind[rO,nb]
 |a::r,[],hr,_,h=>by grind[rO,nb]
 | a::r,b::s,hr,hs,h=>by
  have h1:b.from_≤a.from_:=Gs hs (by grind[rO]);have h2:a.from_≤b.from_:=Gs hr (by grind[rO]);have ha:=hr.head;have hb:=hs.head;have h3:¬a.to<b.to:=fun q=>by grind[eE,QL]
  have h4:¬b.to<a.to:=fun q=>by grind[eE,QL]
  have e:a=b:=by
   obtain⟨a1,a2⟩:=a;obtain⟨b1,b2⟩:=b;grind
  subst e;rw[zE hr.tail hs.tail fun d=>by rw[Gr hr,Gr hs,h]]
def we(f:Int→Bool)(d:Int)(l:List PSpan):List PSpan:=match f d with
 |false=>l
 |true=>match l with
  |[]=>[⟨d,d+1⟩]
  |s::r=>if s.from_=d+1 then⟨d,s.to⟩::r else⟨d,d+1⟩::s::r
def wS(f:Int→Bool):Nat→List PSpan
 |0=>[]
 |k+1=>we f (1048577-Int.ofNat (k+1)) (wS f k)
theorem O5{f:Int→Bool}{d:Int}{l:List PSpan}(h0:0≤d)(h1:d+1≤1048577)(hl:NrmS l)(hf:∀s,s∈l→d+1≤s.from_):
  NrmS (we f d l)∧(∀s,s∈we f d l→d≤s.from_)∧∀e,memB (we f d l) e=((decide (e=d)&&f e)||memB l e):=by
 unfold we;cases hfd:f d with
 |false=>grind
 | true=>
  match l,hl,hf with
  |[],_,_=>
   refine⟨⟨by simp,fun s hs=>by grind⟩,fun s hs=>by simp_all,fun e=>?_⟩;simp only[eE,nb,Bool.or_false];grind
  | s::r,hl,hf=>
   have hs:=hl.head;have hs2:=hf s (eG ..);simp only[];by_cases q:s.from_=d+1
   ·rw[if_pos q];refine⟨⟨kJ.2 ⟨fun x hx=>hl.low hx,hl.tail.gap⟩,fun x hx=>?_⟩,fun x hx=>?_,fun e=>?_⟩
    ·grind[cases NrmS]
    ·grind
    ·simp only[eE];grind
   ·rw[if_neg q];refine⟨⟨kJ.2 ⟨fun x hx=>?_,hl.gap⟩,fun x hx=>?_⟩,fun x hx=>?_,fun e=>?_⟩
    ·have:=hf x hx;rcases ed.1 hx with e|e
     ·grind
     ·have:=hl.low e;grind
    ·rcases ed.1 hx with e|e
     ·grind
     ·exact hl.ok x e
    ·grind
    ·rw[eE];grind
theorem Gk(f:Int→Bool):∀k,k≤1048577→NrmS (wS f k)∧(∀s,s∈wS f k→1048577-Int.ofNat k≤s.from_)∧∀e,memB (wS f k) e=(decide (1048577-Int.ofNat k≤e∧e<1048577)&&f e)
 |0,_=>by
  refine⟨yb,fun s h=>(by cases h),fun e=>?_⟩;have:decide (1048577-Int.ofNat 0≤e∧e<1048577)=false:=by simp_all
  rw[this];rfl
 |k+1,hk=>by
  obtain⟨h1,h2,h3⟩:=Gk f k (by omega);simp only[aP]at *;have:=O5 (f:=f) (d:=1048577-((k+1:Nat):Int)) (l:=wS f k) (by omega) (by omega) h1 (fun s hs=>by grind);have h5:wS f (k+1)=we f (1048577-((k+1:Nat):Int)) (wS f k):=by grind[wS]
  grind
theorem QO(f:Int→Bool):∃l:List PSpan,NrmS l∧∀d,memB l d=(PJ d&&f d):=by
 obtain⟨h1,_,h3⟩:=Gk f 1048577 (an _);exact⟨_,h1,fun d=>by simp_all[PJ]⟩
noncomputable def nf(f:Int→Bool):List PSpan:=Classical.choose (QO f)
theorem zH(f:Int→Bool):NrmS (nf f):=(Classical.choose_spec (QO f)).1
theorem Jb(f:Int→Bool)(d:Int):memB (nf f) d=(PJ d&&f d):=(Classical.choose_spec (QO f)).2 d
theorem QP{f:Int→Bool}{r:List PSpan}(h:NrmS r)(hm:∀d,memB r d=(PJ d&&f d)):r=nf f:=zE h (zH f) fun d=>by grind[Jb]
theorem QR{f g:Int→Bool}(h:∀d,PJ d=true→f d=g d):nf f=nf g:=QP (zH f) fun d=>by
 rw[Jb];grind
theorem UG{l:List PSpan}(h:NrmS l):l=nf (memB l):=QP h fun d=>by
 cases q:memB l d with
 |false=>simp_all
 |true=>
  obtain⟨s,h1,h2,h3⟩:=jr.1 q;have:=h.ok s h1;have:PJ d=true:=by unfold PJ;grind
  simp_all
theorem DP{α:Type}[Inhabited α]{l:List α}{n:Nat}(h:n<l.length):l.take (n+1)=l.take n++[gD l n]:=by grind[List.take_add_one,gD]
theorem ET{α:Type}[Inhabited α]{l:List α}{n:Nat}(h:n<l.length):l.drop n=gD l n::l.drop (n+1):=by grind[List.drop_eq_getElem_cons,gD]
theorem uV{α:Type}{l:List α}{n m:Nat}{x:α}(h:n≤m):(l.set m x).take n=l.take n:=by
 apply List.ext_getElem?;grind
theorem R4{α:Type}[Inhabited α]{l:List α}{i k:Nat}{x:α}(h:i<l.length):gD (l.set i x) k=if k=i then x else gD l k:=by
 unfold gD List.getD;grind
theorem sF.at{l:List PSpan}(h:sF l){i k:Nat}(hik:i≤k)(hk:k<l.length):(gD l i).from_≤(gD l k).from_:=by
 rcases gX i k with q|q
 ·have:=CQ.1 h i k (by omega) hk q;grind[gD]
 grind
structure MergeI(l cur:List PSpan)(n i:Nat):Prop where
 len:cur.length=l.length
 le:n≤i
 il:i≤l.length
 pos:0<i→0<n
 rest:∀k,i≤k→k<l.length→gD cur k=gD l k
 gap:∀j k,j<k→k<n→(gD cur j).to<(gD cur k).from_
 ok:∀k,k<n→0≤(gD cur k).from_∧(gD cur k).from_<(gD cur k).to∧(gD cur k).to≤1048577
 last:0<n→∀k,i≤k→k<l.length→(gD cur (n-1)).from_≤(gD l k).from_
 mem:∀d,(memB (cur.take n) d||memB (l.drop i) d)=memB l d
theorem MergeI.start(l:List PSpan):MergeI l l 0 0:=⟨rfl,an _,bP _,fun h=>absurd h (wD _),fun _ _ _=>rfl,fun _ _ _ h=>absurd h (qX _),fun _ h=>absurd h (qX _),fun h=>absurd h (wD _),fun d=>by simp[memB]⟩
theorem MergeI.copy{l cur:List PSpan}{n i:Nat}(h:MergeI l cur n i)(hi:i<l.length)(hs:sF l)(hok:∀k,k<l.length→0≤(gD l k).from_∧(gD l k).from_<(gD l k).to∧(gD l k).to≤1048577)
  (hn:n=0∨(gD cur (n-1)).to<(gD cur i).from_):MergeI l (cur.set n (gD cur i)) (n+1) (i+1):=by
 rw[h.rest i (an _) hi]at hn ⊢;have hl:=h.le;have hcl:=h.len;have hg:∀k,gD (cur.set n (gD l i)) k=if k=n then gD l i else gD cur k:=fun k=>R4 (by omega)
 refine⟨by simp_all,by omega,by omega,fun _=>by omega,fun k h1 h2=>?_,fun j k h1 h2=>?_,fun k h1=>?_,fun _ k h1 h2=>?_,fun d=>?_⟩
 ·grind[cases MergeI]
 ·rw[hg,hg,if_neg (by omega)];by_cases e:k=n
  ·rw[if_pos e];rcases hn with hn|hn
   ·omega
   ·by_cases e2:j=n-1
    ·simp_all
    ·have h3:=h.gap j (n-1) (by omega) (by omega);grind[cases MergeI]
  ·grind[cases MergeI]
 ·rw[hg];by_cases e:k=n
  ·simp_all
  ·grind[cases MergeI]
 ·rw[hg,if_pos (by omega)];exact hs.at (by omega) h2
 ·rw[DP (by grind),hg,if_pos rfl,uV (an _),zT,←h.mem d,ET hi,eE,eE,nb];grind
theorem MergeI.join{l cur:List PSpan}{n i:Nat}(h:MergeI l cur n i)(hi:i<l.length)(hs:sF l)(hok:∀k,k<l.length→0≤(gD l k).from_∧(gD l k).from_<(gD l k).to∧(gD l k).to≤1048577)
  (hn:0<n)(hle:(gD cur i).from_≤(gD cur (n-1)).to)(x:Int)(hx:x=CR (gD cur (n-1)).to (gD cur i).to):MergeI l (cur.set (n-1) ⟨(gD cur (n-1)).from_,x⟩) n (i+1):=by
 rw[h.rest i (an _) hi]at hle;rw[h.rest i (an _) hi,Ee]at hx;have hl:=h.le;have hcl:=h.len;have hg:∀k,gD (cur.set (n-1) ⟨(gD cur (n-1)).from_,x⟩) k=if k=n-1 then⟨(gD cur (n-1)).from_,x⟩else gD cur k:=fun k=>R4 (by omega)
 have h4:=h.ok (n-1) (by omega);have h5:=hok i hi;have h6:=h.last hn i (an _) hi;refine⟨by simp_all,by omega,by omega,fun _=>hn,fun k h1 h2=>?_,fun j k h1 h2=>?_,fun k h1=>?_,fun _ k h1 h2=>?_,fun d=>?_⟩
 ·grind[cases MergeI]
 ·rw[hg,hg,if_neg (by omega)];by_cases e:k=n-1
  ·grind[cases MergeI]
  ·grind[cases MergeI]
 ·rw[hg];by_cases e:k=n-1
  ·grind
  ·grind[cases MergeI]
 ·grind[cases MergeI]
 ·obtain⟨m,rfl⟩:∃m,n=m+1:=⟨n-1,by omega⟩
  simp only[Nat.add_sub_cancel]at *;rw[DP (by grind),hg,if_pos rfl,uV (an _),zT,←h.mem d,ET hi,eE (gD l i),DP (by omega),zT,eE,eE,nb,Bool.or_false,Bool.or_false];grind
theorem MergeI.nrm{l cur:List PSpan}{n i:Nat}(h:MergeI l cur n i):NrmS (cur.take n):=by
 have hl:=h.le;have hcl:=h.len;have hil:=h.il;have hlen:(cur.take n).length=n:=by grind
 have hg:∀k (hk:k<(cur.take n).length),(cur.take n)[k]=gD cur k:=fun k hk=>by rw[List.getElem_take];unfold gD List.getD;grind
 refine⟨?_,fun s hs=>?_⟩;all_goals grind[List.pairwise_iff_getElem,List.getElem_of_mem,cases MergeI]
theorem MergeI.done{l cur:List PSpan}{n i:Nat}(h:MergeI l cur n i)(hi:l.length≤i)(d:Int):memB (cur.take n) d=memB l d:=by rw[←h.mem d,Fp hi,nb,Bool.or_false]
theorem S4{l l':List PSpan}(hp:l'.Perm (js l)):∀k,k<l'.length→0≤(gD l' k).from_∧(gD l' k).from_<(gD l' k).to∧(gD l' k).to≤1048577:=fun k hk=>BJ (hp.mem_iff.1 (fp hk))
noncomputable def jj(l:List PSpan):List PSpan:=nf (memB l)
theorem Gu{l r:List PSpan}(h:NrmS r)(hm:∀d,memB r d=memB (js l) d):r=jj l:=QP h fun d=>by grind[Df]
theorem N2{l:List PSpan}(h:js l=[]):[]=jj l:=Gu yb fun d=>by grind
end Go.Ev
namespace Go.Ev
open Go
theorem J8{zs:List Int}(hs:zs.Pairwise fun a b=>a≤b):(bb zs).Pairwise (fun a b=>a<b)∧∀z,z∈bb zs↔z∈zs:=by
 generalize hd:zs.toArray=d;have hsz:d.size=zs.length:=by grind
 have hx:∀j (hj:j<zs.length),d[j]! =zs[j]:=fun j hj=>by grind
 have mono:∀i j,i≤j→j<zs.length→d[i]!≤d[j]!:=fun i j hij hj=>by
  rcases gX i j with q|q
  ·rw[hx i (by omega),hx j hj];exact CQ.1 hs i j (by omega) hj q
  grind
 have key:∀m,m≤zs.length→(Lib.compactUpTo d m).Pairwise (fun a b=>a<b)∧(∀z,z∈Lib.compactUpTo d m→∃j,j<m∧z=d[j]!)∧∀j,j<m→d[j]!∈Lib.compactUpTo d m:=by
  intro m;induction m with
  |zero=>simp_all[Lib.compactUpTo]
  | succ m ih=>
   intro hm;obtain⟨h1,h2,h3⟩:=ih (by omega);rw[Lib.compactUpTo_succ];cases hk:Lib.keeps d m with
   | true=>
    simp only[if_true];have hk':m=0∨d[m]!≠d[m-1]!:=by grind[Lib.keeps]
    refine⟨List.pairwise_append.2 ⟨h1,by simp,fun a ha b hb=>?_⟩,fun z hz=>?_,fun j hj=>?_⟩
    ·obtain⟨j,hj,rfl⟩:=h2 a ha;have hb:b=d[m]!:=by simp_all
     subst hb;have e1:=mono j (m-1) (by omega) (by omega);have e2:=mono (m-1) m (by omega) (by omega);omega
    all_goals grind
   |false=>
    simp only[gu,if_false,dO];have hk':¬(m=0∨d[m]!≠d[m-1]!):=by grind[Lib.keeps]
    grind
 obtain⟨h1,h2,h3⟩:=key zs.length (an _);have e:bb zs=Lib.compactUpTo d zs.length:=by grind[bb,Lib.compact]
 rw[e];refine⟨h1,fun z=>⟨fun hz=>?_,fun hz=>?_⟩⟩
 ·grind
 ·obtain⟨j,hj,rfl⟩:=sd hz;simp_all
theorem NrmS.at{l:List PSpan}(h:NrmS l){j k:Nat}(hjk:j<k)(hk:k<l.length):(gD l j).to<(gD l k).from_:=by
 have:=CQ.1 h.gap j k (by omega) hk hjk;grind[gD]
theorem NrmS.okAt{l:List PSpan}(h:NrmS l){k:Nat}(hk:k<l.length):0≤(gD l k).from_∧(gD l k).from_<(gD l k).to∧(gD l k).to≤1048577:=h.ok _ (fp hk)
theorem U3{l:List PSpan}{d:Int}:memB l d=true↔∃k,k<l.length∧(gD l k).from_≤d∧d<(gD l k).to:=by
 rw[jr];constructor
 ·rintro⟨s,h1,h2⟩
  obtain⟨k,hk,e⟩:=sd h1;have:gD l k=s:=by grind[gD]
  grind
 grind[fp]
theorem Dd {a b:Int}:ak (kW a b) 0=true↔a=b:=by
 unfold kW;cases h:ao a b with
 | true => have:=ae h;constructor
           ·intro h;cases h
           omega
 |false=>
  have:=af h;cases h2:ao b a with
  | true => have:=ae h2;constructor
            ·intro h;cases h
            omega
  |false=>have:=af h2;exact⟨fun _=>by omega,fun _=>rfl⟩
theorem U2{l:List PSpan}(h:NrmS l)(d:Int):iP l d=memB l d:=by
 have hi:=BW (d:=d) h.sort;have hc:=E7 l d;rw[DD,U3];unfold iP Jp;simp only[se,aO];constructor
 ·rintro(⟨h1,h2⟩|⟨h1,h2⟩)
  ·have h1:=ae h1;simp only[aP]at h1;have h2:=Dd.1 h2;have:=h.okAt (k:=ox l d) (by omega);grind
  ·have h1:=ae h1;have h2:=ae h2;simp only[aP]at h1;have h3:=ae ((hi (ox l d-1) (by omega)).2 (by omega));grind
 ·rintro⟨k,hk,h1,h2⟩
  by_cases e:(gD l k).from_=d
  ·left;have e1:¬k<ox l d:=fun q=>by have:=ae ((hi k hk).2 q);omega
   have e2:¬ox l d<k:=fun q=>by
    have h3:=h.at q hk;have h4:=h.okAt (k:=ox l d) (by omega);grind[n4]
   have e3:ox l d=k:=by omega
   rw[e3];exact⟨n4 (by simp_all),Dd.2 e⟩
  ·right;have e1:k<ox l d:=(hi k hk).1 (n4 (by omega));have e2:¬k+1<ox l d:=fun q=>by
    have h3:=h.at (j:=k) (k:=k+1) (by omega) (by omega);have:=ae ((hi (k+1) (by omega)).2 q);omega
   grind[n4]
def pI(l:List PSpan):List Int:=l.flatMap fun s=>[s.from_,s.to]
theorem Dv(s:PSpan)(r:List PSpan):pI (s::r)=[s.from_,s.to]++pI r:=by simp[pI]
theorem kB:∀(l:List PSpan),(pI l).length=2*l.length
 |[]=>rfl
 |s::r=>by rw[Dv];simp[kB r];omega
theorem HF{l:List PSpan}{s:PSpan}(h:s∈l):s.from_∈pI l∧s.to∈pI l:=by
 unfold pI;grind
def kj(g:Int→Bool):List Int→List PSpan
 |[]=>[]
 | a::r=>match r with
  |[]=>[]
  |b::_=>match g a with
   |true=>⟨a,b⟩::kj g r
   |false=>kj g r
theorem Gq(g:Int→Bool)(a b:Int)(r:List Int):kj g (a::b::r)=match g a with|true=>⟨a,b⟩::kj g (b::r)|false=>kj g (b::r):=by rw[kj]
def so:Int→List Int→Int
 |a,[]=>a
 |_,b::r=>so b r
theorem Aw:∀{r:List Int}{a:Int},(a::r).Pairwise (fun a b=>a<b)→a≤so a r∧∀z,z∈r→z≤so a r
 |[],a,_=>⟨Int.le_refl _,fun z h=>by grind⟩
 |b::r,a,h=>by
  obtain⟨h1,h2⟩:=kJ.1 h;have h3:=h1 b (eG ..);obtain⟨k1,k2⟩:=Aw h2;grind[so]
theorem Gz{g:Int→Bool}{C:List Int}(hg:∀x y,(∀z,z∈C→z≤x∨y≤z)→∀d,x≤d→d<y→g d=g x):
  ∀(r:List Int)(a:Int),(a::r).Pairwise (fun a b=>a<b)→(∀z,z∈C→z≤a∨z∈r)→∀d,memB (kj g (a::r)) d=(decide (a≤d∧d<so a r)&&g d)
 |[],a,_,_,d=>by
  have:decide (a≤d∧d<so a [])=false:=by grind[so]
  rw[this];rfl
 | b::r,a,hp,hC,d=>by
  obtain⟨h1,h2⟩:=kJ.1 hp;have hab:=h1 b (eG ..);obtain⟨hb2,h3⟩:=kJ.1 h2;have hl:=(Aw h2).1;have ih:=Gz hg r b h2 (fun z hz=>by grind) d;have hc:∀d,a≤d→d<b→g d=g a:=hg a b fun z hz=>by grind
  have e0:memB (kj g (a::b::r)) d=((g a&&decide (a≤d∧d<b))||memB (kj g (b::r)) d):=by
   rw[Gq];cases g a with
   |true=>rw[eE,Bool.true_and]
   |false=>simp_all
  rw[e0,ih,show so a (b::r)=so b r from rfl];grind
def iF(A:List PSpan):List Int:=bb (dR (pI A))
theorem ME(A:List PSpan):(iF A).Pairwise (fun a b=>a<b)∧∀z,z∈iF A↔z∈pI A:=by
 obtain⟨h1,h2⟩:=J8 (D0 (pI A));exact⟨h1,fun z=>(h2 z).trans (lK (pI A)).mem_iff⟩
theorem zS{A l:List PSpan}(hl:∀s,s∈l→s∈A){x y:Int}(hz:∀z,z∈iF A→z≤x∨y≤z){d:Int}(h1:x≤d)(h2:d<y):memB l d=memB l x:=by
 have key:∀s,s∈l→((s.from_≤d∧d<s.to)↔(s.from_≤x∧x<s.to)):=fun s hs=>by
  obtain⟨k1,k2⟩:=HF (hl s hs);grind[ME]
 rw[DD,jr,jr];grind
theorem Ni{op:Bool→Bool→Bool}(h0:op false false=false)(A B:List PSpan)(d:Int):memB (kj (fun d=>op (memB A d) (memB B d)) (iF (A++B))) d=op (memB A d) (memB B d):=by
 obtain⟨h1,h2⟩:=ME (A++B);have out:∀(z1 z2:Int),(∀z,z∈iF (A++B)→z1≤z∧z≤z2)→¬(z1≤d∧d<z2)→op (memB A d) (memB B d)=false:=fun z1 z2 hz hd=>by
  have no:∀l:List PSpan,(∀s,s∈l→s∈A++B)→memB l d=false:=fun l hl=>by
   cases q:memB l d with
   |false=>rfl
   |true=>
    obtain⟨s,k1,k2,k3⟩:=jr.1 q;obtain⟨k4,k5⟩:=HF (hl s k1);grind
  simp_all
 cases hC:iF (A++B)with
 |nil=>
  rw[kj,nb];exact(out (d+1) d (fun z hz=>by grind) (by omega)).symm
 | cons a r=>
  rw[hC]at h1;have hl:=Aw h1;have hp:=(kJ.1 h1).1;rw[Gz (C:=iF (A++B)) (fun x y hz d h3 h4=>by
   show op (memB A d) (memB B d)=op (memB A x) (memB B x)
   rw[zS (A:=A++B) (fun s hs=>Fo _ hs) hz h3 h4,zS (A:=A++B) (fun s hs=>wt _ hs) hz h3 h4]) r a h1 (fun z hz=>by
   grind) d]
  by_cases q:a≤d∧d<so a r;all_goals grind
theorem A8(A:List PSpan):(iF A).length≤2*A.length:=by
 have:=xr (dR (pI A));have h2:=(lK (pI A)).length_eq;grind[kB,iF]
theorem Cl{g:Int→Bool}{C:List Int}{x:Nat}(h1:1≤x)(h2:x<C.length):kj g (C.drop (x-1))=match g (gD C (x-1))with|true=>⟨gD C (x-1),gD C x⟩::kj g (C.drop (x+1-1))|false=>kj g (C.drop (x+1-1)):=by grind[ET,Gq]
theorem lm{g:Int→Bool}{C:List Int}{x:Nat}(h1:1≤x)(h2:C.length≤x):kj g (C.drop (x-1))=[]:=by
 have:(C.drop (x-1)).length≤1:=by simp_all
 match C.drop (x-1),this with
 |[],_=>rfl
 |[_],_=>rfl
 |_::_::_,h=>simp_all
noncomputable def sE(op:Bool→Bool→Bool)(a b:List PSpan):List PSpan:=nf fun d=>op (memB a d) (memB b d)
theorem mM(l:List PSpan):NrmS (jj l):=zH _
theorem CN(l:List PSpan)(d:Int):memB (jj l) d=(PJ d&&memB l d):=Jb _ d
theorem ON{op:Bool→Bool→Bool}(h0:op false false=false){a b A B:List PSpan}(hA:jj a=A)(hB:jj b=B):jj (kj (fun d=>op (iP A d) (iP B d)) (iF (A++B)))=sE op a b:=by
 have nA:NrmS A:=hA▸mM a;have nB:NrmS B:=hB▸mM b;have e:(fun d=>op (iP A d) (iP B d))=fun d=>op (memB A d) (memB B d):=funext fun d=>by grind[U2]
 rw[e];unfold jj sE;refine QR fun d hd=>?_
 rw[Ni h0,←hA,←hB,CN,CN,hd,Bool.true_and,Bool.true_and]
end Go.Ev
namespace Go.Ev
open Go
section
variable{H:Type}{enc:TypeId×Value→H}{P:Program}{w:World}{base:Nat}{spare:Nat→Bool}{held:Bool}
inductive VL(M:dB):List AV→List Value→Prop
 |nil:VL M [] []
 |cons {x:AV} {v:Value} {xs:List AV} {vs:List Value} (h:VRel (fun _=>none) M x v) (t:VL M xs vs):VL M (x::xs) (v::vs)
theorem VL.append{M:dB}{xs ys:List AV}{a b:List Value}(h:VL M xs a)(k:VL M ys b):VL M (xs++ys) (a++b):=by
 induction h with
 |nil=>grind
 |cons h _ ih=>exact .cons h ih
theorem VL.at_{M:dB}{xs:List AV}{a:List Value}(h:VL M xs a):∀(j:Nat)(y:AV),xs[j]?=some y→∃v,a[j]?=some v∧VRel (fun _=>none) M y v:=by
 induction h with
 |nil=>simp_all
 |cons h _ ih=>grind
theorem VL.one{M:dB}{x:AV}{cs:List Value}(h:VL M [x] cs):∃v,cs=[v]∧VRel (fun _=>none) M x v:=by
 cases h with
 |cons h t=>cases t;simp_all
def Wt(P:Program)(t:TypeId)(d:DataW H):Prop:=∀m,m∈d.weights P t→m≤reachBytes
theorem qA{e:TypeId}{d:DataW H}{m:Nat}(hm:m∈d.weights P e):∀{l:List (DataW H)},d∈l→m∈DataW.weightsAll P e l
 |[],h=>by grind
 |a::r,h=>by
  unfold DataW.weightsAll;rcases ed.1 h with rfl|h
  ·simp_all
  ·exact wt _ (qA hm h)
theorem mw{t:TypeId}{d:DataW H}{m:Nat}(hm:m∈d.weights P t):∀{ts:List TypeId}{l:List (DataW H)}(i:Nat),ts[i]?=some t→l[i]?=some d→m∈DataW.weightsEach P ts l
 |[],_,i,h,_=>by simp_all
 |_::_,[],i,_,h=>by simp_all
 |u::ts,a::r,i,h1,h2=>by
  unfold DataW.weightsEach;cases i with
  |zero=>simp_all
  |succ i=>exact wt _ (mw hm i (by simp_all) (by simp_all))
def E6(P:Program):List Field→Nat→Nat→Bool
 |[],off,n=>Nat.beq off n
 |f::r,off,n=>Nat.beq f.offset off&&E6 P r (off+P.cellsOf f.type) n
def VF(M:dB)(P:Program)(cs:List Value):List Field→List (List AV)→Prop
 |[],[]=>True
 |f::fs,xs::xss=>VL M xs ((cs.drop f.offset).take (P.cellsOf f.type))∧VF M P cs fs xss
 |_,_=>False
theorem VF.vl{M:dB}{cs:List Value}:∀{fs:List Field}{xss:List (List AV)}{off:Nat},E6 P fs off cs.length=true→VF M P cs fs xss→VL M xss.flatten (cs.drop off)
 |[],[],off,h,_=>by
  have:=qZ h;rw[this,List.drop_length];exact .nil
 |[],_::_,_,_,h=>h.elim
 |_::_,[],_,_,h=>h.elim
 |f::fs,xs::xss,off,h,k=>by
  unfold E6 at h;rw[aO]at h;have ho:=qZ h.1;have h1:=k.1;rw[ho]at h1;have h2:=VF.vl h.2 k.2;have e:cs.drop off=(cs.drop off).take (P.cellsOf f.type)++cs.drop (off+P.cellsOf f.type):=by grind[List.drop_drop,List.take_append_drop]
  rw[List.flatten_cons,e];exact h1.append h2
def TF(enc:TypeId×Value→H)(P:Program)(w:World)(base:Nat)(spare:Nat→Bool)(held:Bool)(n:Nat)(cs:List Value):List Field→Prop
 |[]=>True
 |f::fs=>(∃d p,DataW.trod enc P w base spare held n f.type ((cs.drop f.offset).take (P.cellsOf f.type))=some (d,p)∧Wt P f.type d)∧TF enc P w base spare held n cs fs
theorem XJ{n:Nat}{cs:List Value}:∀(fs:List Field),(∀(i:Nat)(f:Field),fs[i]?=some f→∃d p,DataW.trod enc P w base spare held n f.type ((cs.drop f.offset).take (P.cellsOf f.type))=some (d,p)∧Wt P f.type d)→TF enc P w base spare held n cs fs
 |[],_=>trivial
 |f::fs,h=>⟨h 0 f rfl,XJ fs fun i g hg=>h (i+1) g (by simp_all)⟩
theorem jJ{t:TypeId}{fs:Array Field}{fuel:Nat}{cs:List Value}{d:DataW H}{p:List MemPlace}(hu:P.underlying t=some (.struct fs))(hc:E6 P fs.toList 0 (P.cellsOf t)=true)
  (h:DataW.trod enc P w base spare held fuel t cs=some (d,p))(hw:Wt P t d):
  ∃n,fuel=n+1∧TF enc P w base spare held n cs fs.toList∧∀xss,VF (cb w) P cs fs.toList xss→VL (cb w) xss.flatten cs:=by
 obtain⟨xs,n,rfl,h1,h2,h3,h4⟩:=DataW.trod_struct hu h;simp only[tE]at h1;obtain⟨rfl,_⟩:=h1;refine⟨n,rfl,XJ _ fun i f hf=>?_,fun xss hx=>?_⟩
 ·have hf':fs[i]?=some f:=by simp_all
  have hi:i<xs.length:=by grind
  have e:=h4 i f hf';rw[lD hi]at e;refine⟨xs[i].1,xs[i].2,e,fun m hm=>hw m ?_⟩;unfold DataW.weights;rw[hu];exact mw hm i (by simp_all) (by grind)
 ·have:=VF.vl (off:=0) (by simp_all) hx;simp_all
theorem gM{t:TypeId}{fuel:Nat}{cs:List Value}{d:DataW H}{p:List MemPlace}(hu:P.underlying t=some (.int .i64))(h:DataW.trod enc P w base spare held fuel t cs=some (d,p)):∃x,VL (cb w) [.int .i64 x] cs:=by
 obtain⟨x,rfl,_⟩:=DataW.trod_int hu h;exact⟨x,.cons (.int _ _) .nil⟩
theorem oX{t:TypeId}{fuel:Nat}{cs:List Value}{d:DataW H}{p:List MemPlace}(hu:P.underlying t=some .string)(h:DataW.trod enc P w base spare held fuel t cs=some (d,p)):∃s,VL (cb w) [.str s] cs:=by
 obtain⟨⟨⟨s⟩⟩,rfl,_⟩:=DataW.trod_string hu h;exact⟨s,.cons (.str _) .nil⟩
theorem LG{α:Type}{Q:Nat→α→Prop}:∀(n:Nat),(∀i,i<n→∃x,Q i x)→∃l:List α,l.length=n∧∀i x,l[i]?=some x→Q i x
 |0,_=>⟨[],rfl,fun i x h=>by simp_all⟩
 |n+1,h=>by
  obtain⟨l,h1,h2⟩:=LG n fun i hi=>h i (by omega)
  obtain⟨y,hy⟩:=h n (by omega);refine⟨l++[y],by simp_all,fun i x hx=>?_⟩;grind
theorem aay{x:AV}(h:x.cells.all cO=true):Sc x:=fun y hy=>kO.1 h y hy
theorem I4{α:Type}(el:α→AV)(fit:α→Prop){t e:TypeId}{fuel:Nat}{cs:List Value}{d:DataW H}{p:List MemPlace}(hu:P.underlying t=some (.slice e))(hsz:Nat.blt 0 (P.cellsOf e)=true)(hby:Nat.blt 0 (P.bytesOf e)=true)
  (hel:∀x,(el x).cells.length=P.cellsOf e)(hsc:∀x,(el x).cells.all cO=true)(htop:∀x,(el x).top=0)
  (hrec:∀m,m<fuel→∀cs d p,DataW.trod enc P w base spare held m e cs=some (d,p)→Wt P e d→∃x,fit x∧VL (cb w) (el x).cells cs)
  (h:DataW.trod enc P w base spare held fuel t cs=some (d,p))(hw:Wt P t d):
  ∃l:List α,l.length<2^47∧(∀x,x∈l→fit x)∧VL (cb w) [.ls (l.map el)] cs:=by
 rw[du]at hsz hby;simp only[decide_eq_true_eq]at hsz hby;rcases DataW.trod_slice hu h with⟨rfl,_⟩|⟨a,len,cap,elems,rest,n,rfl,rfl,h1,h2,h3,h4,h5,h6,_,_⟩
 ·exact⟨[],Nat.two_pow_pos 47,fun x h=>absurd h (List.not_mem_nil),.cons .lsn .nil⟩
 ·simp only[tE]at h1;obtain⟨rfl,_⟩:=h1;have hwl:len<2^47:=by
   have:=hw ((elems.length+rest.length)*P.bytesOf e) (by grind[DataW.weights]);have h7:elems.length≤(elems.length+rest.length)*P.bytesOf e:=bL (Nat.le_add_right _ _) (Nat.le_mul_of_pos_right _ hby);have:elems.length≤reachBytes:=bL h7 this;rw[h5]at this;exact qQ this (by decide)
  have el0:∀i,i<len→∃x,fit x∧∃cs:List Value,cs.length=P.cellsOf e∧(∀j,j<P.cellsOf e→w.cell? ((a.add (i*P.cellsOf e)).add j)=cs[j]?)∧VL (cb w) (el x).cells cs:=by
   intro i hi;have k5:=h6 i hi;have hi':i<elems.length:=by omega
   rw[lD hi']at k5;simp only[Option.bind_eq_some_iff]at k5;obtain⟨cs,c1,c2⟩:=k5;obtain⟨z1,z2⟩:=Dh c1;obtain⟨x,f1,f2⟩:=hrec n (by omega) cs elems[i].1 elems[i].2 c2 (fun m hm=>hw m (by
    unfold DataW.weights;rw[hu];exact eQ _ (Fo _ (qA hm (fE.2 ⟨elems[i],DC hi',rfl⟩)))))
   grind
  obtain⟨l,q1,q2⟩:=LG len el0;refine⟨l,by omega,fun x hx=>?_,.cons ?_ .nil⟩
  ·obtain⟨i,hi⟩:=FC.1 hx;grind
  ·have q1':(l.map el).length=len:=by simp_all
   generalize hys:l.map el=ys at *;have q3:∀i y,ys[i]?=some y→∃cs:List Value,cs.length=P.cellsOf e∧(∀j,j<P.cellsOf e→w.cell? ((a.add (i*P.cellsOf e)).add j)=cs[j]?)∧VL (cb w) y.cells cs:=by grind
   have q4:∀y,y∈ys→y.cells.length=P.cellsOf e∧Sc y:=by grind[aay]
   have q5:aq ys=0:=by grind[aX]
   have addadd:∀i j:Nat,a.spot=none→(a.add i).add j=⟨a.block,a.off+i+j,none⟩:=by
    intro i j hs;obtain⟨blk,off,spot⟩:=a;grind[Addr.add]
   have spot:ys≠[]→a.spot=none:=by
    intro hne;obtain⟨x,hx⟩:∃x,ys[0]?=some x:=by
     cases ys with
     |nil=>simp_all
     |cons x r=>exact⟨x,rfl⟩
    grind[sJ,Addr.add]
   have cell:∀(i j:Nat)(x:AV),ys[i]?=some x→j<P.cellsOf e→∃c v,cb w a.block=some c∧c[a.off+i*P.cellsOf e+j]?=some v∧∀y,x.cells[j]?=some y→VRel (fun _=>none) (cb w) y v:=by
    intro i j x hx hj;obtain⟨cs,c1,c2,c3⟩:=q3 i x hx;have:=c2 j hj;rw[lD (by omega),addadd _ _ (spot (by grind))]at this;obtain⟨_,c,m1,m2⟩:=sJ this;refine⟨c,_,m1,m2,fun y hy=>?_⟩;obtain⟨v,g1,g2⟩:=c3.at_ j y hy;simp_all
   refine .lsp ?_ q5;by_cases hne:ys=[]
   ·subst hne;simp at q1';subst q1';exact .ps (sz:=P.cellsOf e) (c:=#[]) (by simp) (fun h=>by grind) (fun h=>absurd rfl h) (fun x h=>by simp_all) (fun i x j y h=>by simp_all)
   ·have hlen:0<ys.length:=qr.2 hne;obtain⟨x0,hx0⟩:∃x,ys[ys.length-1]?=some x:=⟨ys[ys.length-1],by simp⟩
    obtain⟨c,v0,m1,m2,_⟩:=cell (ys.length-1) (P.cellsOf e-1) x0 hx0 (by omega);have hc:=(wB.1 m2).1;have hfit:a.off+ys.length*P.cellsOf e≤c.size:=by
     have h1:(ys.length-1)*P.cellsOf e+P.cellsOf e=ys.length*P.cellsOf e:=by rw[←qu];grind
     omega
    have:=VRel.ps (pl:=fun _=>none) (M:=cb w) (xs:=ys) (tight:=false) (a:=a) (cap:=cap) (sz:=P.cellsOf e) (c:=c) (by omega) (fun h=>by grind) (fun _=>⟨spot hne,m1,hfit,hsz⟩) q4
     (fun i x j y hx hy=>by
      obtain⟨r1,_⟩:=q4 x (bC hx);have hj:j<P.cellsOf e:=by grind
      obtain⟨c',v,n1,n2,n3⟩:=cell i j x hx hj;simp_all)
    simp_all
theorem lE{α:Type}(el:α→AV)(fit:α→Prop){t e:TypeId}{fuel:Nat}{cs:List Value}{d:DataW H}{p:List MemPlace}(hu:P.underlying t=some (.slice e))(hsz:Nat.blt 0 (P.cellsOf e)=true)(hby:Nat.blt 0 (P.bytesOf e)=true)
  (hel:∀x,(el x).cells.length=P.cellsOf e)(hsc:∀x,(el x).cells.all cO=true)(htop:∀x,(el x).top=0)
  (hrec:∀m,m<fuel→∀cs d p,DataW.trod enc P w base spare held m e cs=some (d,p)→Wt P e d→∃x,fit x∧VL (cb w) (el x).cells cs)
  (h:DataW.trod enc P w base spare held fuel t cs=some (d,p))(hw:Wt P t d):
  ∃l:List α,l.length<2^60∧(∀x,x∈l→fit x)∧VL (cb w) [.ls (l.map el)] cs:=by
 have⟨l,h1,h2⟩:=I4 el fit hu hsz hby hel hsc htop hrec h hw;grind
end
end Go.Ev
namespace Go.Ev
open Go
structure PPair where
 a:Int
 b:Int
deriving Inhabited,DecidableEq
structure PRef where
 act:Int
 item:Int
deriving Inhabited,DecidableEq
def fc(u:TUnit):List PWord:=u.head++u.words
mutual
def dM:TUnit→List PWord
 |⟨_,_,_,_,_,h,w,ks⟩=>(h++w)++fj ks
def fj:List TUnit→List PWord
 |[]=>[]
 |k::r=>dM k++fj r
end
theorem vb(u:TUnit):dM u=fc u++fj u.kids:=by obtain⟨a,b,c,d,e,h,w,ks⟩:=u;rw[dM];rfl
theorem lg:fj []=[]:=by rw[fj]
theorem dU(k:TUnit)(r:List TUnit):fj (k::r)=dM k++fj r:=by rw[fj]
theorem oI{k:Int}:∀{m:List (Int×Int)},gS k m=none→¬k∈m.map (·.1)
 |[],_=>by simp
 | (i,x)::r,h=>by
  simp only[gS]at h;cases e:ak k i with
  |true=>grind
  |false=>
   rw[e]at h;have:=oI h;grind[AH]
section
variable{u w':TUnit}{ws:List PWord}{w:PWord}{r:List PWord}{ks:List TUnit}{m x:List (Int×Int)}{c B:Int}
end
theorem VRel.ls0{pl:Pl}{M:dB}{x:Value}(h:VRel pl M (.ls []) x):VRel pl M .nils x∨VRel pl M (.ps [] false) x:=by
 cases h with
 |lsn=>exact .inl .nils
 |lsp h _=>simp_all
theorem Ff{P:Program}{G:eN}{f:FuncId}{a b c:List AV}{h:AHeap}{Ψ:AV→AHeap→Prop}(hs:∀pl M vs,VRels pl M c vs→VRels pl M a vs∨VRels pl M b vs)(h1:aI P G f a h Ψ)(h2:aI P G f b h Ψ):aI P G f c h Ψ:=fun pl M w vs hg hr hv=>(hs pl M vs hv).elim (h1 pl M w vs hg hr) (h2 pl M w vs hg hr)
theorem VRels.first{pl:Pl}{M:dB}{x y z:AV}{r:List AV}{vs:Array Value}(h:VRels pl M (z::r) vs)(hs:∀v,VRel pl M z v→VRel pl M x v∨VRel pl M y v):VRels pl M (x::r) vs∨VRels pl M (y::r) vs:=by
 obtain⟨h1,h2⟩:=h;have lift:∀u,VRel pl M u (vs.getD 0 undef)→VRels pl M (u::r) vs:=fun u hu=>⟨h1,fun j y hj=>by
  cases j with
  |zero=>grind
  |succ j=>simp_all⟩
 exact(hs _ (h2 0 z rfl)).imp (lift x) (lift y)
end Go.Ev
namespace Go.Ev
open Go
theorem au{n b m:Nat}(h1:n≤m)(h2:m≤2^40)(h3:m*b≤2^40):small n b=true:=by
 unfold small;have h4:n*b≤m*b:=eH b h1;grind[Nat.ble_eq_true_of_le]
def ZD(d:Int):List Int→List Int
 |[]=>[d]
 |x::r=>bif ao x d then x::ZD d r else bif ak x d then x::r else d::x::r
def fJ(ws:List PWord)(l:List Int):List Int:=ws.foldl (fun l w=>ZD w.act l) l
end Go.Ev
namespace Go.Ev
open Go
def Uw{α:Type}:Result α→World
 | .ok _ w=>w
 | .halt _ w=>w
def gW:GStep→World
 | .go _ w _=>w
 | .comm _ _ _ _ w _=>w
 | .spawn _ _ w _=>w
 | .count _ w _=>w
 | .timer _ _ w _=>w
 | .alone _ _ w _=>w
 | .newcoro _ _ _ w _=>w
 | .coroswitch _ _ _ w _=>w
 | .collect _ w _=>w
 | .watch _ w _=>w
 | .ended _ w _=>w
theorem lT(es:Array Event)(g:GStep):gW (GStep.after es g)=gW g:=by cases g<;>rfl
theorem KJ{α:Type}:∀(q:Ask α)(w:World),w.drawn≤(w.ask q).2.drawn
 | .done a,w=>an _
 | .ask what range k,w=>by
  rw[World.ask];split
  ·exact KJ (k 0) w
  ·exact bL (ow _) (KJ _ {w with drawn:=w.drawn+1})
theorem PE(w:World)(c:Sys):w.drawn≤(w.sys c).2.drawn:=by
 unfold World.sys;have h:=KJ (Kernel.perform c w.os) w;grind
theorem xI{p:Program}{w w':World}{at_:Addr}{u:TypeId}{k:Addr}{v:Value}{b:Bool}{l:List Addr}(h:w.viewStore p at_ u k v b=.ok (w',l)):w'.drawn=w.drawn:=by
 unfold World.viewStore at h;simp only[bind,Except.bind,pure,Except.pure]at h
 repeat' split at h
 all_goals first|cases h;done|(injection h with h;injection h with h1 h2;rw[←h1])
theorem AE{p:Program}{w w':World}{a:Addr}{v:Value}{b:Bool}{l:List Addr}(h:w.farStore p a v b=.ok (w',l)):w'.drawn=w.drawn:=by
 unfold World.farStore at h
 repeat' split at h
 all_goals first|cases h;done|grind[xI]
theorem EH(w:World)(a:Addr)(n:Nat):(w.freeze a n).drawn=w.drawn:=by unfold World.freeze;grind
theorem P9(p:Program){α:Type}(s:Sem α):∀(w:World),w.drawn≤(Uw (s.run p w)).drawn:=by
 induction s with
 |pure a=>exact fun w=>an _
 |load m a k ih=>
  intro w;simp only[Sem.run]
  repeat' split
  all_goals first|exact ih _ _|exact an _
 | store m a v k ih=>
  intro w;cases v
  all_goals simp only[Sem.run]
  all_goals first
   |exact an _
   |((repeat' split);all_goals first|exact an _|exact ih (w.setCell _ _)|(rename_i e;refine bL ?_ (ih _);rw[AE e];exact an _))
 |new o k ih=>grind[Sem.run]
 |shape r k ih=>grind[Sem.run]
 |freeze a n k ih=>intro w;simp only[Sem.run];refine bL ?_ (ih _);simp_all[EH]
 |frozen a k ih=>grind[Sem.run]
 |getObj r k ih=>
  intro w;simp only[Sem.run]
  repeat' split
  all_goals first|exact ih _ _|exact an _
 |setObj r o k ih=>
  intro w;simp only[Sem.run]
  repeat' split
  all_goals first|exact ih {w with heap:=w.heap.setIfInBounds r o}|exact an _
 |choose q k ih=>
  intro w;simp only[Sem.run];grind
 |sys c k ih=>grind[Sem.run,PE]
 |program k ih=>grind[Sem.run]
 |mark m k ih=>grind[Sem.run]
 |halt h=>exact fun w=>an _
theorem cG{p:Program}{α:Type}{s:Sem α}{w:World}{r:Result α}(h:s.run p w=r):w.drawn≤(Uw r).drawn:=h▸P9 p s w
theorem Uq{p:Program}{α:Type}{s:Sem α}{w:World}{es es':Array Event}{r:Result α}(h:s.runT p w es=(r,es')):w.drawn≤(Uw r).drawn:=by
 have:=Sem.runT_fst p s w es;rw[h]at this;exact cG this.symm
theorem J2(w:World)(fd:Nat)(text:ByteArray)(o:Outcome):w.drawn≤(gW (endWith w fd text o)).drawn:=by
 unfold endWith;simp only[];have h:=PE w (.write fd text);split;all_goals (rename_i e;rw[e]at h)
 all_goals repeat' split
 all_goals exact h
theorem xl(fr:Frame)(m:String)(w:World):w.drawn≤(gW (endThrow fr m w)).drawn:=an _
theorem rl(p:Program)(fr:Frame)(v:Value)(w:World):w.drawn≤(gW (endPrinting p fr v w)).drawn:=by
 unfold endPrinting;simp only[]
 repeat' split
 all_goals exact an _
theorem xm(p:Program)(fr:Frame)(cs:List Frame)(d:Option Dying)(m:String)(w:World):w.drawn≤(gW (endFatal p fr cs d m w)).drawn:=by
 unfold endFatal;simp only[];split;all_goals (rename_i e;exact cG e)
theorem IB(p:Program)(fr:Frame)(d:Dying)(f:Fatal)(w:World):w.drawn≤(gW (writeOn p fr d f w)).drawn:=by
 unfold writeOn;split
 ·exact an _
 ·simp only[];split;all_goals (rename_i e;exact Uq e)
theorem YH(p:Program)(fr:Frame)(d:Dying)(w:World):w.drawn≤(gW (die p fr d w)).drawn:=by
 unfold die;split
 ·grind[IB]
 ·split
  ·split
   ·exact an _
   grind[J2]
  ·simp only[];split
   ·exact an _
   ·split;all_goals (rename_i e;exact cG e)
   ·rw[lT];split;all_goals first|(rename_i e;exact cG ((Sem.runT_fst ..).symm.trans e))|skip
    ·rename_i e;exact bL (cG ((Sem.runT_fst ..).symm.trans e)) (rl ..)
    ·exact an _
   ·exact an _
theorem rn(p:Program)(main:Bool)(fr:Frame)(cs:List Frame)(d:Option Dying)(v:Value)(w:World):w.drawn≤(gW (doReturn p main fr cs d v w)).drawn:=by
 unfold doReturn
 repeat' split
 all_goals exact an _
theorem tq{c:Prop}[Decidable c]{a b:GStep}{n:Nat}(h1:n≤(gW a).drawn)(h2:n≤(gW b).drawn):n≤(gW (if c then a else b)).drawn:=by grind
theorem x8(p:Program)(fr:Frame)(cs:List Frame)(dy:Option Dying)(d:Deferred)(w:World):w.drawn≤(gW (callDeferred p fr cs dy d w)).drawn:=by
 unfold callDeferred;refine tq ?_ ?_
 ·exact an _
 ·simp only[];rw[lT];split;all_goals (rename_i e;have h:=cG ((Sem.runT_fst ..).symm.trans e))
  all_goals first|exact h|exact bL h (xm ..)|((repeat' split)<;>exact h)
theorem NV(p:Program)(main:Bool)(fr:Frame)(cs:List Frame)(dy:Option Dying)(w:World):w.drawn≤(gW (unwind p main fr cs dy w)).drawn:=by
 unfold unwind;split
 ·simp only[];rw[lT];split;all_goals (rename_i e;exact cG ((Sem.runT_fst ..).symm.trans e))
 ·grind[x8]
 ·split
  ·exact an _
  ·split
   ·exact an _
   ·split
    ·exact an _
    ·split
     ·split
      ·exact an _
      ·split;all_goals (rename_i e;exact cG e)
     ·split
      ·grind[rl]
      ·exact an _
  ·split
   ·grind[rn]
   ·simp only[];rw[lT];split;all_goals (rename_i e;have h:=cG ((Sem.runT_fst ..).symm.trans e))
    all_goals first|exact h|exact bL h (rn ..)
theorem Sl(p:Program)(fr:Frame)(cs:List Frame)(dy:Option Dying)(g:Nat)(w:World):w.drawn≤(gW (early p fr cs dy g w)).drawn:=by
 unfold early;simp only[]
 repeat' split
 all_goals first|exact an _|(rename_i e;exact cG e)|(rename_i e _;exact cG e)|(rename_i e _ _;exact cG e)|(rename_i e _ _ _ _;exact cG e)
theorem vk(p:Program)(listen:Bool)(fr:Frame)(cs:List Frame)(dy:Option Dying)(s:Sem Next)(w:World):w.drawn≤(gW (stepG.apply p listen fr cs dy s w)).drawn:=by
 unfold stepG.apply;simp only[];rw[lT];have h0:w.drawn≤(Uw (if listen=true then Sem.runT p s w #[]else(Sem.run p s w,#[])).fst).drawn:=by
  cases listen
  ·grind[P9]
  ·exact cG (Sem.runT_fst ..).symm
 generalize (if listen=true then Sem.runT p s w #[]else(Sem.run p s w,#[])).fst=r at h0 ⊢;split;all_goals first|exact h0|exact bL h0 (xm ..)|exact bL h0 (Sl ..)|exact bL h0 (xl ..)|skip
 all_goals repeat' split
 all_goals first|exact h0|exact bL h0 (xl ..)|skip
theorem Ut(p:Program)(listen:Bool)(fr:Frame)(cs:List Frame)(dy:Option Dying)(w:World):w.drawn≤(gW (stepG.oper p listen fr cs dy w)).drawn:=by
 unfold stepG.oper;split
 ·exact an _
 ·split;all_goals exact vk ..
theorem V0(p:Program)(main listen:Bool)(fr:Frame)(cs:List Frame)(dy:Option Dying)(w:World):w.drawn≤(gW (stepG.exec p main listen fr cs dy w)).drawn:=by
 have lv:∀(l:Nat)(jump:Option Code),w.drawn≤(gW (GStep.after (seen p fr.fn ((Instr.endRound l jump).runT p w #[]).snd) (match((Instr.endRound l jump).runT p w #[]).fst with| .ok v w=>doReturn p main fr cs dy v w| .halt _ w=>.ended (.stuck "range over a function: no such loop" (fr.pos p)) w))).drawn :=by
  intro l jump;rw[lT];have h0:=cG (Sem.runT_fst p (Instr.endRound l jump) w #[]).symm;split;all_goals (rename_i e;rw[e]at h0)
  ·exact bL h0 (rn ..)
  ·exact h0
 unfold stepG.exec;simp only[];split;all_goals first|exact an _|exact vk .. |skip
 ·split
  ·exact tq (an _) (an _)
  grind
 ·split
  ·exact tq (an _) (an _)
  grind
 ·split<;>exact an _
 ·rename_i id k _;cases exitTo id k with
  |none=>simp only[Option.elim];split;exact tq (an _) (an _);grind
  |some k'=>exact an _
 ·rename_i id k _;cases gotoIn id k with
  |none=>simp only[Option.elim];split;exact tq (an _) (an _);grind
  |some k'=>exact an _
 ·rw[lT];split
  ·rename_i e;exact bL (cG ((Sem.runT_fst ..).symm.trans e)) (vk ..)
  ·rename_i e;exact cG ((Sem.runT_fst ..).symm.trans e)
 ·rw[lT];split<;>rename_i e<;>exact cG ((Sem.runT_fst ..).symm.trans e)
 ·rename_i row _ _ _;cases Extern.next row with
  |none=>exact an _
  |some e=>grind[vk]
 ·refine tq (an _) ?_;split<;>rename_i e<;>exact cG e
 ·exact tq (Ut ..) (an _)
theorem PH(p:Program)(main listen:Bool)(g:Goroutine)(w:World):w.drawn≤(gW (stepG p main g w listen)).drawn:=by
 unfold stepG;grind[YH,V0,NV]
def sD(n:Nat):Stepped→Prop
 | .next m=>n≤m.world.drawn
 | .ended _ _=>True
theorem sD.trans{n k:Nat}{s:Stepped}(h:n≤k)(g:sD k s):sD n s:=by
 cases s with
 |next m=>exact bL h g
 |ended o w=>trivial
theorem Rc{c:Prop}[Decidable c]{a b:Stepped}{n:Nat}(h1:sD n a)(h2:sD n b):sD n (if c then a else b):=by grind
theorem LF(p:Program)(gs:Array Goroutine)(rest:Rest)(w:World):sD w.drawn (look p gs rest w):=by
 unfold look;simp only[];split
 ·refine Rc trivial ?_;split
  ·trivial
  ·split<;>rename_i e<;>first|exact cG e|trivial
 ·trivial
theorem xH{rest:Rest}{cases:Array CommCase}{w w':World}(h:waitingAt rest cases w=some w'):w'.drawn=w.drawn:=by
 unfold waitingAt at h
 repeat' split at h
 all_goals first|(cases h;done)|(cases h;rfl)
theorem Eu{c:Prop}[Decidable c]{a b:Stepped×Array MemOp}{n:Nat}(h1:sD n a.1)(h2:sD n b.1):sD n (if c then a else b).1:=by grind
theorem BX(p:Program)(rest:Rest)(gs:Array Goroutine)(i:Nat)(g:Goroutine)(cs:Array CommCase)(bl:Bool)(sh:CommShape)(w:World):sD w.drawn (communicate p rest gs i g cs bl sh w).1:=by
 unfold communicate;simp only[];refine Eu trivial (Eu (Eu ?_ (an _)) ?_)
 ·split
  ·rename_i e;exact wA (xH e).symm
  ·trivial
 ·split
  ·trivial
  ·rename_i w1 e;have h:w.drawn≤w1.drawn:=cG e;clear e;split
   ·split
    ·rename_i e;exact bL h (cG e)
    ·trivial
   ·exact h
   ·exact h
   ·split
    ·exact h
    ·split
     ·rename_i e;exact bL h (cG e)
     ·trivial
   ·exact h
   ·exact h
   ·trivial
theorem P4(p:Program)(m:Machine)(k:Nat):sD m.world.drawn (serve p m k):=by
 unfold serve;split
 ·trivial
 ·exact an _
 ·simp only[];split
  ·trivial
  ·exact an _
theorem Bn{m m':Machine}{op:TimerOp}{v:Value}(h:timerOp m op=.ok (v,m')):m'.world.drawn=m.world.drawn:=by
 have rt:∀(m:Machine)(k:Nat)(t:Timer)(a b:Nat),(retime m k t a b).2.world.drawn=m.world.drawn:=by
  intro m k t a b;unfold retime drain;grind
 cases op with
 |new t=>
  simp only[timerOp]at h
  repeat' split at h
  all_goals first|(cases h;done)|(cases h;rfl)
 |stop var=>
  simp only[timerOp,timerOp.named]at h;grind
 | reset var a b=>
  simp only[timerOp,timerOp.named,timerOp.opened]at h;split at h
  ·rename_i e;have e2:∀m2:Machine,(if waitedFor m var=true then match Kernel.withPoller m.world.os with| .ok os=>some {m with world:={m.world with os}}| .error _=>none else some m)=some m2→m2.world.drawn=m.world.drawn:=by
    intro m2 e
    repeat' split at e
    all_goals first|(cases e;done)|(cases e;rfl)
   grind
  ·grind
 |deadline a b c d=>simp only[timerOp]at h;cases h;rfl
theorem UU(p:Program)(m:Machine)(i:Nat)(b:Bool):sD m.world.drawn (runT p m i b).1:=by
 unfold runT;simp only[];have h:=PH p (i==0) b (m.gs.swapAt! i {(default:Goroutine)with status:=.finished}).1 m.world;generalize stepG p (i==0) (m.gs.swapAt! i {(default:Goroutine)with status:=.finished}).1 m.world b=s at h ⊢;cases s
 all_goals simp only[]
 all_goals try exact h
 all_goals try trivial
 ·exact sD.trans h (BX ..)
 ·exact Rc trivial h
 ·split
  ·rename_i e;exact bL h (wA (Bn e).symm)
  ·split
   ·rename_i e;cases e;exact h
   ·trivial
  ·trivial
  ·trivial
 ·split
  ·exact h
  ·split
   ·rename_i e;cases e;exact h
   ·trivial
  ·trivial
 ·exact sD.trans h (LF ..)
def PW(n:Nat):Move→Prop
 | .goroutine m _=>n≤m.world.drawn
 | .machine s _=>sD n s
theorem PW.trans{n k:Nat}{s:Move}(h:n≤k)(g:PW k s):PW n s:=by
 cases s with
 |goroutine m i=>exact bL h g
 |machine s o=>exact sD.trans h g
theorem Bz(p:Program)(m:Machine):PW m.world.drawn (askOn p m):=by
 have pick:∀(m:Machine)(rs:List Nat),PW m.world.drawn (match(choose (.sched rs.length)).run p m.world with
   | .halt _ w=>.machine (.ended (.stuck "sched" "") w)
   | .ok k world=>
    if rs.length≤1 then .goroutine {m with world} (rs.getD k 0)else
    match(choose (.extern "sched.slice" 65536)).run p world with
    | .halt _ w=>.machine (.ended (.stuck "sched.slice" "") w)
    | .ok n world=>.goroutine {m with world,rest:={m.rest with slice:=if n=0 then none else some (rs.getD k 0,n)}} (rs.getD k 0)):=by
  intro m rs;split
  ·trivial
  ·rename_i w1 e;have h:m.world.drawn≤w1.drawn:=cG e;split
   ·exact h
   ·split
    ·trivial
    ·rename_i e;exact bL h (cG e)
 unfold askOn;simp only[];split
 ·trivial
 ·rename_i k w1 e;have h:m.world.drawn≤w1.drawn:=cG e;clear e;split
  ·exact sD.trans h (P4 p {m with world:=w1} _)
  ·split
   ·split
    ·exact h
    ·split
     ·exact h
     ·split<;>trivial
   ·split
    ·exact PW.trans h (pick {m with world:=w1} _)
    ·split
     ·trivial
     ·rename_i w2 e;exact PW.trans (bL h (cG e)) (pick {m with world:=w2} _)
     ·rename_i e;exact bL h (cG e)
     ·rename_i k2 w2 e;exact PW.trans (bL h (cG e)) (pick (Machine.advanceTo {m with world:=w2} _) _)
theorem M4(p:Program)(m:Machine):PW m.world.drawn (ask p m):=by
 unfold ask;split
 ·split
  ·trivial
  ·rename_i w1 e;have h:m.world.drawn≤w1.drawn:=cG e;have h2:=LF p m.gs m.rest w1;split
   ·rename_i e2;rw[e2]at h2;exact PW.trans (bL h h2) (Bz ..)
   ·exact sD.trans h h2
  ·rename_i w1 _ e;have h:m.world.drawn≤w1.drawn:=cG e;exact PW.trans h (Bz p {m with world:=w1})
 grind[Bz]
theorem UL(p:Program)(m:Machine):PW m.world.drawn (move p m):=by
 unfold move;split
 ·split
  ·exact an _
  ·trivial
 ·split
  ·split
   ·exact an _
   ·exact M4 p {m with rest:={m.rest with slice:=none}}
  grind[M4]
theorem T6(p:Program)(m:Machine):sD m.world.drawn (step p m):=by
 unfold step stepT;have h:=UL p m;split
 ·rename_i e;rw[e]at h;exact sD.trans h (UU ..)
 ·rename_i e;rw[e]at h;exact h
theorem LY(p:Program):∀(n:Nat)(m m':Machine),runN p n m=.next m'→m.world.drawn≤m'.world.drawn
 |0,m,m',h=>by cases h;omega
 |n+1,m,m',h=>by
  rw[runN]at h;have h1:=T6 p m;split at h
  ·rename_i e;rw[e]at h1;exact bL h1 (LY p n _ _ h)
  simp_all
theorem PG{p:Program}{m m':Machine}(h:Steps p m m'):m.world.drawn≤m'.world.drawn:=by
 obtain⟨n,h⟩:=h;exact LY p n m m' h
theorem IU{p:Program}{f:FuncId}{args:Array Value}{w:World}{R:Ending→World→Prop}(h:Calls p f args w R):Calls p f args w fun e w'=>R e w'∧((∃v,e=.returned v)→w.drawn≤w'.drawn):=by
 intro cs;obtain⟨e,w',fr,h1,h2,h3,h4⟩:=h cs;refine⟨e,w',fr,⟨h1,?_⟩,h2,h3,h4⟩
 rintro⟨v,rfl⟩
 exact PG (m:=lone _ cs w) (m':=lone fr cs w') h2
end Go.Ev
namespace Go.Ev
open Go Go.RowKit
section
variable{P:Program}{G:eN}{pl:Pl}{M:dB}{h:AHeap}{w w':World}{f:FuncId}{args:List AV}{v:AV}
theorem cL.below(hr:cL pl M h w)(hb:Below w.heap.size w w'):cL pl M h w':=
 ⟨hr.dom,fun id p o h1 h2=>by rw[hb.block _ (hr.blk id p h1)];exact hr.obj id p o h1 h2,fun id p h1=>FA (hr.blk id p h1) hb.size,hr.inj,
  fun b c h1=>by rw[hb.block _ (hr.memLt h1)];exact hr.imm b c h1,hr.sep⟩
theorem dX.below(hb:Below w.heap.size w w')(hd:w.drawn≤w'.drawn):dX h pl M w h pl M w':=⟨nN.refl _,fun _ _ h=>h,fun _ _ h=>h,hb.size,fun b h1 _=>hb.block b h1,fun id p h=>.inl ⟨p,h,rfl⟩,fun _ _ _ h=>h,fun _ _ h _=>h,fun _ _ h=>.inl h,hb.os,hb.tape,hb.output,hd⟩
theorem bQ.below(hE:∀vs w,(callFunc f vs).run P w=.ok (.enter f vs) w)
  (hC:∀(pl:Pl)(M:dB)(w:World)(vs:Array Value)(h:AHeap),pT G pl M→cL pl M h w→VRels pl M args vs→∃cv,VRel pl M v cv∧Calls P f vs w fun e w'=>e=.returned cv∧Below w.heap.size w w'):bQ P G f args v:=by
 intro h pl M w vs hG hr hv;obtain⟨cv,h1,h2⟩:=hC pl M w vs h hG hr hv;refine .inl ⟨hE _ _,Calls.mono (IU h2) fun e w' ⟨⟨he,hb⟩,hd⟩=>?_⟩;exact⟨cv,v,h,he,⟨rfl,rfl⟩,pl,M,h1,hr.below hb,dX.below hb (hd ⟨_,he⟩),an _⟩
theorem bQ.calls(hGT:jW G)(hE:∀vs w,(callFunc f vs).run P w=.ok (.enter f vs) w)(hp:bQ P G f args v)(hG:pT G pl M)(hr:cL pl M h w){vs:Array Value}(hv:VRels (fun _=>none) M args vs):
  Calls P f vs w fun e w'=>(∃cv pl' M',e=.returned cv∧VRel pl' M' v cv)∧Below w.heap.size w w'∧w.drawn≤w'.drawn:=by
 have r0:cL (fun _=>none) M AHeap.none w:=⟨fun _ _ h=>(by grind),fun _ _ _ h _=>(by grind),fun _ _ h=>(by grind),fun _ _ _ _ h _ _=>(by grind),hr.imm,fun _ _ h=>(by grind)⟩
 rcases hp AHeap.none (fun _=>none) M w vs (hG.none hGT) r0 hv with⟨_,h2⟩|⟨cv,w1,v1,h1,e1,_,_⟩
 ·refine Calls.mono h2 fun e w' ⟨cv,v1,h1,he,⟨e1,e2⟩,pl',M',g1,g2,g3,_⟩=>?_
  subst e1;exact⟨⟨cv,pl',M',he,g1⟩,⟨g3.os,g3.tape,g3.out,g3.size,fun b hb=>g3.kept b hb fun id p h=>(by grind)⟩,g3.drawn⟩
 ·grind
end
end Go.Ev
namespace Go.Ev
open Go
def BO(lo hi:Int)(c:UInt8):Bool:=az (ao (.ofNat c.toNat) lo||ao hi (.ofNat c.toNat))
abbrev gZ:UInt8→Bool:=BO 48 57
abbrev BT:UInt8→Bool:=BO 65 90
def da(p:UInt8→Bool)(s:aE):Nat:=(s.takeWhile p).length
section
variable{p:UInt8→Bool}{s:aE}
theorem uU:da p s≤s.length:=(List.takeWhile_prefix p).length_le
theorem EJ:∀{s:aE}{i:Nat},i<da p s→p (gD s i)=true
 |[],i,h=>by simp_all[da]
 | c::r,i,h=>by
  cases hc:p c with
  |false=>simp_all[da]
  |true=>
   cases i with
   |zero=>exact hc
   |succ i=>exact EJ (s:=r) (by simp_all[da])
theorem zy:∀{s:aE},da p s<s.length→p (gD s (da p s))=false
 |[],h=>by simp_all
 | c::r,h=>by
  cases hc:p c with
  |false=>simp[da,hc,gD]
  |true=>
   have h2:da p r<r.length:=by simp_all[da]
   have:=zy (s:=r) h2;simp_all[da,gD]
theorem vG:∀{s:aE},da p s=s.length↔s.all p=true
 |[]=>by simp[da]
 |c::r=>by
  have ih:da p r=r.length↔r.all p=true:=vG;cases hc:p c with
  |false=>simp[da,hc]
  |true=>simp_all[da]
theorem EW{i:Nat}(h1:∀j,j<i→p (gD s j)=true)(h2:i≤s.length)(h3:i<s.length→p (gD s i)=false):da p s=i:=by grind[zy,uU,EJ]
end
theorem Ju{lo hi:Int}{c:UInt8}(h1:ao (.ofNat c.toNat) lo=false)(h2:ao hi (.ofNat c.toNat)=false):BO lo hi c=true:=by grind[BO]
theorem JA{lo hi:Int}{c:UInt8}(h1:ao (.ofNat c.toNat) lo=true):BO lo hi c=false:=by grind[BO]
theorem EC{lo hi:Int}{c:UInt8}(h1:ao hi (.ofNat c.toNat)=true):BO lo hi c=false:=by grind[BO]
def fS(s:aE):Bool:=az (ao (.ofNat (s.take (da gZ s)).length) 1)&&(az (ao 4 (.ofNat (s.take (da gZ s)).length))&&(az (ak (.ofNat (gD (s.take (da gZ s)) 0).toNat) 48)&&(az (ao 3 (.ofNat (s.drop (da gZ s)).length))&&(s.drop (da gZ s)).all BT)))
def gG(s:aE):Bool:=az (ao (.ofNat s.length) 1)&&(az (ao 24 (.ofNat s.length))&&s.all (BO 33 126))
def kX(l:List aE):Bool:=az (ao 256 (.ofNat l.length))&&l.all gG
theorem En:({data:=#[]}:ByteArray).data.toList=([]:List UInt8):=rfl
theorem Sg(s:aE):ao (.ofNat s.length) 1=dL s []:=by cases s<;>rfl
def dE{α:Type}(p:α→Bool):List α→Nat→Int
 |[],_=> -1
 |x::r,i=>bif p x then Int.ofNat i else dE p r (i+1)
theorem lP{α:Type}(p:α→Bool):∀(l:List α)(i:Nat),ao (dE p l i) 0=az (l.any p)
 |[],_=>rfl
 |x::r,i=>by
  unfold dE;rw[List.any_cons];cases h:p x with
  |true=>rfl
  |false=>simp_all[lP]
section
variable{α:Type}{p:α→Bool}{l x r:List α}{w:α}{j:Nat}
theorem oS(h1:l.drop j=x)(h2:x=w::r):l.length-(w::r).length=j∧l.length-r.length=j+1:=by grind
theorem mD(h1:l.drop j=x)(h2:x=w::r)(h3:dE p l 0=dE p (w::r) (l.length-(w::r).length))(h4:p w=true):dE p l 0=Int.ofNat j:=by rw[h3,(oS h1 h2).1,dE,h4];rfl
theorem km(h1:l.drop j=x)(h2:x=w::r)(h3:dE p l 0=dE p (w::r) (l.length-(w::r).length))(h4:p w=false):dE p l 0=dE p r (l.length-r.length):=by rw[h3,(oS h1 h2).1,(oS h1 h2).2,dE,h4];rfl
end
def nI(s:PStep):Bool:=ak s.kind 0&&dL s.label []
def uX(s:PStep):Bool:=ao 0 s.kind&&(az (ao 7 s.kind)&&fS s.label)
def O2:List PStep→Bool
 |[]=>true
 |s::r=>(nI s||uX s)&&r.all uX
def lX(p:List PStep):Bool:=O2 p&&az (ao 9 (.ofNat p.length))
def Ig(p r:List PStep):Bool:=bif Nat.beq r.length p.length then O2 r else r.all uX
theorem O1{p:List PStep}:O2 p=Ig p p:=by simp_all[Ig]
theorem Wh{p:List PStep}:Ig p []=true:=by unfold Ig;cases Nat.beq ([]:List PStep).length p.length<;>rfl
theorem Fx{p x r:List PStep}{w:PStep}{j:Nat}(h1:p.drop j=x)(h2:x=w::r)(h3:O2 p=Ig p (w::r)):O2 p=((bif ak (Int.ofNat j) 0 then(nI w||uX w)else uX w)&&Ig p r):=by
 obtain⟨e1,e2⟩:=oS h1 h2;have e3:=congrArg List.length (h1.trans h2);simp only[wo,cM]at e1 e2 e3;have f1:Nat.beq r.length p.length=false:=by cases h:Nat.beq r.length p.length with|false=>rfl|true=>grind[Nat.eq_of_beq_eq_true]
 rw[h3];unfold Ig;rw[f1];cases j with
 |zero=>
  have f2:Nat.beq (w::r).length p.length=true:=by simp_all
  rw[f2];rfl
 |succ j=>
  have f2:Nat.beq (w::r).length p.length=false:=by cases h:Nat.beq (w::r).length p.length with|false=>rfl|true=>simp_all
  rw[f2];rfl
def dW:Int→aE
 |0=>[98,111,111,107]
 |1=>[112,97,114,116]
 |2=>[115,101,99,116,105,111,110]
 |3=>[112,97,114,97,103,114,97,112,104]
 |4=>[116,97,98,108,101]
 |5=>[114,111,119]
 |6=>[99,101,108,108]
 |7=>[110,111,116,101]
 |_=>[]
def DI:Int→List Int
 |0=>[1,2]
 |1=>[2]
 |2=>[3,4,7]
 |3=>[3,4,7]
 |4=>[5]
 |5=>[6]
 |_=>[]
def iJ(p k:Int):Bool:=(DI p).any (ak k)
theorem Aa{k:Int}(h:k<0∨7<k):dW k=[]:=by
 unfold dW;grind
theorem y7{k:Int}(h:k<0∨7<k):DI k=[]:=by
 unfold DI;grind
end Go.Ev
namespace Go.Ev
open Go Go.RowKit Go.Proofs
structure ClassOf(p:UInt8→Bool)(q:Nat→Bool):Prop where
 low:∀c:UInt8,c.toNat<128→q c.toNat=az (p c)
 high:∀n,128≤n→q n=true
 none:∀c:UInt8,128≤c.toNat→p c=false
theorem VD{s:aE}{i:Nat}(h:i<s.length)(h2:i<ByteArray.size ⟨⟨s⟩⟩):(ByteArray.mk ⟨s⟩)[i]'h2=gD s i:=by
 simp[gD,List.getD,lD h];rfl
theorem uL{p:UInt8→Bool}{q:Nat→Bool}(hc:ClassOf p q)(s:aE):∀(f pos:Nat),pos≤da p s→s.length≤pos+f→Lib.idxFuncFrom q true ⟨⟨s⟩⟩ f pos=(bif Nat.beq (da p s) s.length then -1 else Int.ofNat (da p s))
 | f,pos,h1,h2=>by
  have hl:=uU (p:=p) (s:=s);have hsz:ByteArray.size ⟨⟨s⟩⟩=s.length:=rfl;by_cases he:pos<s.length
  ·cases f with
   |zero=>omega
   | succ f=>
    unfold Lib.idxFuncFrom;rw[hsz,if_pos he];have hb:=VD he (by rw[hsz];exact he);by_cases hr:pos<da p s
    ·have hp:=EJ hr;have ha:(gD s pos).toNat<128:=by
      rcases gX (gD s pos).toNat 128 with h|h
      ·exact h
      ·rw[hc.none _ h]at hp;cases hp
     rw[decode_ascii _ pos (by rw[hsz];exact he) (by rw[hb];exact ha),hb];rw[if_neg (by rw[hc.low _ ha,hp];decide)];exact uL hc s f (pos+1) hr (by omega)
    ·have e:da p s=pos:=by omega
     have hp:=zy (p:=p) (s:=s) (by omega);rw[e]at hp;have hq:q (Utf8.decode ⟨⟨s⟩⟩ pos).1=true:=by
      rcases gX (gD s pos).toNat 128 with h|h
      ·rw[decode_ascii _ pos (by rw[hsz];exact he) (by rw[hb];exact h),hb,hc.low _ h,hp];rfl
      ·exact hc.high _ (decode_high _ pos (by rw[hsz];exact he) (by rw[hb];exact h)).1
     rw[if_pos hq,e];have f1:Nat.beq pos s.length=false:=by cases h:Nat.beq pos s.length with|false=>rfl|true=>have:=qZ h;omega
     rw[f1];rfl
  ·have e:da p s=s.length:=by omega
   rw[Lib.idxFuncFrom_end _ _ _ _ _ (by rw[hsz];exact he),e,qm];rfl
theorem xy{p:UInt8→Bool}{q:Nat→Bool}(hc:ClassOf p q)(s:aE):Lib.idxFunc q true ⟨⟨s⟩⟩=(bif Nat.beq (da p s) s.length then -1 else Int.ofNat (da p s)):=uL hc s _ 0 (bP _) (by show s.length≤0+s.length;omega)
section
variable{P:Program}{G:eN}{f g:FuncId}
theorem Cu{pl:Pl}{M:dB}{w:World}{h:AHeap}(hGT:jW G)(hg2:∀args w,(callFunc g args).run P w=.ok (.enter g args) w){q:Nat→Bool}{qI:Int→Bool}(hp:∀r:Int,bQ P G g [.int .i32 r] (.bool (qI r)))(hq:∀n:Nat,qI (.ofNat n)=q n)
  (hG:pT G pl M)(hr:cL pl M h w):PredGrows P g #[] q w:=by
 intro W x _ hb;refine Calls.mono (bQ.calls hGT hg2 (hp (.ofNat x)) hG (hr.below hb) (vs:=#[.int .i32 (.ofNat x)]) ⟨rfl,fun j y hj=>?_⟩) fun e w' ⟨⟨cv,pl',M',he,hv⟩,hb',_⟩=>?_
 ·cases j with
  |zero=>simp at hj;subst hj;exact .int _ _
  |succ j=>simp_all
 grind[cases VRel]
theorem Ai(hGT:jW G)(hE:∀vs w,(callFunc f vs).run P w=.ok (.enter f vs) w)(hg2:∀args w,(callFunc g args).run P w=.ok (.enter g args) w){q:Nat→Bool}{qI:Int→Bool}
  (hC:∀(s:ByteArray)(w:World),PredGrows P g #[] q w→Calls P f #[.string s,.func (.func g) #[] #[]] w fun e w'=>e=.returned (.int .i64 (Lib.idxFunc q true s))∧Below w.heap.size w w')
  (hp:∀r:Int,bQ P G g [.int .i32 r] (.bool (qI r)))(hq:∀n:Nat,qI (.ofNat n)=q n){p:UInt8→Bool}(hc:ClassOf p q)(s:aE):
  bQ P G f [.str s,.func (.func g) [] []] (.int .i64 (bif Nat.beq (da p s) s.length then -1 else Int.ofNat (da p s))):=by
 refine bQ.below hE fun pl M w vs h hG hr hv=>?_
 obtain⟨a,b,rfl,hv1,hv2⟩:=Bw hv;have e2:=zg hv2;subst e2;cases hv1
 rw[←xy hc s];exact⟨_,.int _ _,hC ⟨⟨s⟩⟩ w (Cu hGT hg2 hp hq hG hr)⟩
theorem vV(hGT:jW G)(hE:∀vs w,(callFunc f vs).run P w=.ok (.enter f vs) w)(hg2:∀args w,(callFunc g args).run P w=.ok (.enter g args) w){q:Nat→Bool}{qI:Int→Bool}
  (hC:∀(s:ByteArray)(w:World),PredGrows P g #[] q w→Calls P f #[.string s,.func (.func g) #[] #[]] w fun e w'=>e=.returned (.bool (decide (0≤Lib.idxFunc q true s)))∧Below w.heap.size w w')
  (hp:∀r:Int,bQ P G g [.int .i32 r] (.bool (qI r)))(hq:∀n:Nat,qI (.ofNat n)=q n){p:UInt8→Bool}(hc:ClassOf p q)(s:aE):
  bQ P G f [.str s,.func (.func g) [] []] (.bool (az (s.all p))):=by
 refine bQ.below hE fun pl M w vs h hG hr hv=>?_
 obtain⟨a,b,rfl,hv1,hv2⟩:=Bw hv;have e2:=zg hv2;subst e2;cases hv1
 have e:az (s.all p)=decide (0≤Lib.idxFunc q true ⟨⟨s⟩⟩):=by
  rw[xy hc s];cases ha:s.all p with
  |true=>rw[(vG (p:=p)).2 ha,qm];rfl
  | false=>
   have:Nat.beq (da p s) s.length=false:=by
    cases hb:Nat.beq (da p s) s.length with
    |false=>rfl
    |true=>grind[vG,Nat.eq_of_beq_eq_true]
   simp_all
 rw[e];exact⟨_,.bool _,hC ⟨⟨s⟩⟩ w (Cu hGT hg2 hp hq hG hr)⟩
end
theorem IW{lo hi:Nat}(h:hi<128):ClassOf (BO (Int.ofNat lo) (Int.ofNat hi)) fun n=>ao (Int.ofNat n) (Int.ofNat lo)||ao (Int.ofNat hi) (Int.ofNat n) where
 low c _:=by unfold BO;simp_all
 high n hn:=by rw[show ao (Int.ofNat hi) (Int.ofNat n)=true from n4 (by grind)];simp_all
 none c hn:=EC (n4 (by grind))
end Go.Ev
namespace Go.Ev
open Go Go.RowKit
section
variable{P:Program}{G:eN}{f:FuncId}
theorem IR{pl:Pl}{M:dB}{w:World}{h:AHeap}(hr:cL pl M h w){l:List aE}{a:Addr}{n cap:Nat}(hv:VRel pl M (.ps (l.map nr) false) (.slice (some a) n cap))(hne:l≠[]):
  n=l.length∧n≤cap∧a=⟨a.block,a.off,none⟩∧a.block<w.heap.size∧∀(j:Nat)(x:ByteArray),(l.map fun s=>(⟨⟨s⟩⟩:ByteArray))[j]?=some x→w.cell? ⟨a.block,a.off+j,none⟩=some (.string x):=by
 cases hv with
 | ps hl ht hm hs hc=>
  rename_i sz c;have hne':l.map nr≠[]:=by simp_all
  obtain⟨m1,m2,m3,m4⟩:=hm hne';obtain⟨t,fr,hb⟩:=hr.imm _ _ m2;have hsz:sz=1:=by
   cases l with
   |nil=>simp_all
   |cons s r=>exact((hs (nr s) (by simp)).1).symm
  subst hsz;refine⟨by simp,hl,by rw[←m1],hr.memLt m2,fun j x hj=>?_⟩;rw[qt]at hj;obtain⟨s,e1,rfl⟩:=Ft.1 hj;have hlt:j<l.length:=(gF.1 e1).1;have q:=hc j (nr s) 0 (.str s) (by simp_all) rfl;rw[Nat.mul_one,qJ]at q;have hin:a.off+j<c.size:=by grind
  have e2:c[a.off+j]?=some (c.getD (a.off+j) undef):=by simp_all
  simp only[World.cell?,hb];simp only[Option.isSome_none,gu,if_false];rw[e2];cases hq:c.getD (a.off+j) undef<;>rw[hq]at q<;>cases q
  rfl
theorem OK(hE:∀vs w,(callFunc f vs).run P w=.ok (.enter f vs) w)
  (hC:∀(bk o c:Nat)(xs:List ByteArray)(sep:ByteArray)(w:World),(∀(j:Nat) x,xs[j]?=some x→w.cell? ⟨bk,o+j,none⟩=some (.string x))→bk<w.heap.size→xs.length≤140737488355328→xs.length≤c→
   (Lib.join (xs.map (·.data.toList)) sep.data.toList).length≤140737488355328→
   Calls P f #[.slice (some ⟨bk,o,none⟩) xs.length c,.string sep] w fun e w'=>e=.returned (.string ⟨(Lib.join (xs.map (·.data.toList)) sep.data.toList).toArray⟩)∧Below w.heap.size w w')
  (hN:∀(a:Option Addr)(c:Nat)(sep:ByteArray)(w:World),Calls P f #[.slice a 0 c,.string sep] w fun e w'=>e=.returned (.string ⟨#[]⟩)∧w'=w)
  (l:List aE)(sep:aE)(h1:l.length≤140737488355328)(h2:(Lib.join l sep).length≤140737488355328):bQ P G f [.ls (l.map nr),.str sep] (.str (Lib.join l sep)):=by
 refine bQ.below hE fun pl M w vs h hG hr hv=>?_
 obtain⟨a,b,rfl,hv1,hv2⟩:=Bw hv;cases hv2
 have nil (p:Option Addr) (cap:Nat) (hl:l=[]):∃cv,VRel pl M (.str (Lib.join l sep)) cv∧Calls P f #[.slice p 0 cap,.string ⟨⟨sep⟩⟩] w fun e w'=>e=.returned cv∧Below w.heap.size w w':=by
  subst hl;exact⟨.string ⟨⟨[]⟩⟩,.str _,Calls.mono (hN p cap ⟨⟨sep⟩⟩ w) fun e w' ⟨he,hw⟩=>⟨he,hw▸Below.refl _ _⟩⟩
 generalize hx:l.map nr=xs at hv1;cases hv1 with
 |lsn=>simp_all
 | lsp hp ht=>
  subst hx;by_cases hl:l=[]
  ·subst hl;cases hp with
   |ps=>simp_all
  ·have hp':=hp;cases hp with
   |ps=>
    rename_i a cap sz c _ _ _ _ _;obtain⟨e1,e2,e3,e4,e5⟩:=IR hr hp' hl;have e6:(l.map fun s=>(⟨⟨s⟩⟩:ByteArray)).map (·.data.toList)=l:=by rw[List.map_map];exact List.map_id l
    have:=hC a.block a.off cap (l.map fun s=>⟨⟨s⟩⟩) ⟨⟨sep⟩⟩ w e5 e4 (by grind) (by grind) (by grind);rw[e6,←e3,cK,←e1]at this;exact⟨.string ⟨⟨Lib.join l sep⟩⟩,.str _,this⟩
theorem Gy(hE:∀vs w,(callFunc f vs).run P w=.ok (.enter f vs) w)
  (hC:∀(s:ByteArray)(c:Nat)(w:World),c≤9223372036854775807→s.size*c≤140737488355328→Calls P f #[.string s,.int .i64 c] w fun e w'=>e=.returned (.string ⟨(Lib.repeatL s.data.toList c).toArray⟩)∧Below w.heap.size w w')
  (s:aE)(c:Nat)(h1:c≤9223372036854775807)(h2:s.length*c≤140737488355328):bQ P G f [.str s,.int .i64 (.ofNat c)] (.str (Lib.repeatL s c)):=by
 refine bQ.below hE fun pl M w vs h hG hr hv=>?_
 obtain⟨a,b,rfl,hv1,hv2⟩:=Bw hv;cases hv1;cases hv2
 exact⟨.string ⟨⟨Lib.repeatL s c⟩⟩,.str _,hC ⟨⟨s⟩⟩ c w h1 h2⟩
theorem Nq(hE:∀vs w,(callFunc f vs).run P w=.ok (.enter f vs) w)
  (hC:∀(s cs:ByteArray)(w:World),s.size≤9223372036854775807→cs.size<4294967281→(∀(j:Nat) b,cs.data.toList[j]?=some b→b.toNat<128)→
   Calls P f #[.string s,.string cs] w fun e w'=>e=.returned (.string ⟨(Lib.trimS s.data.toList cs.data.toList).toArray⟩)∧Below w.heap.size w w')
  (s cs:aE)(h1:s.length≤9223372036854775807)(h2:cs.length<4294967281)(h3:∀b,b∈cs→b.toNat<128):bQ P G f [.str s,.str cs] (.str (Lib.trimS s cs)):=by
 refine bQ.below hE fun pl M w vs h hG hr hv=>?_
 obtain⟨a,b,rfl,hv1,hv2⟩:=Bw hv;cases hv1;cases hv2
 exact⟨.string ⟨⟨Lib.trimS s cs⟩⟩,.str _,hC ⟨⟨s⟩⟩ ⟨⟨cs⟩⟩ w h1 h2 fun j b hj=>h3 b (bC hj)⟩
end
end Go.Ev
namespace Go.Ev
open Go
structure PId where
 a:Int
 i:Int
 n:Int
 deriving Inhabited,DecidableEq
noncomputable def aJ(p:PId):AV:=.agg [.int .i64 p.a,.int .i64 p.i,.int .i64 p.n]
theorem AP(p:PId):(aJ p).top=0:=rfl
def ah(u:TUnit):PId:=⟨u.act,u.item,u.n⟩
def aT(p q:PId):Bool:=ak p.a q.a&&(ak p.i q.i&&ak p.n q.n)
theorem n6{p q:PId}(h:aT p q=true):p=q:=by
 unfold aT at h;rw[aO,aO]at h;obtain⟨a,b,c⟩:=p;obtain⟨d,e,g⟩:=q;grind[iI]
theorem lw(p:PId):aT p p=true:=by simp[aT,ba]
abbrev fI(p:PId)(u:TUnit):Bool:=aT (ah u) p
theorem Ad:KeyOf PId true 3 [(0,1),(1,1),(2,1)] aJ aT where
 eq a b:=by
  show xT [.int .i64 a.a,.int .i64 a.i,.int .i64 a.n] [.int .i64 b.a,.int .i64 b.i,.int .i64 b.n] [(0,1),(1,1),(2,1)]=_
  simp only[xT,jt,TD,JT,kT,aT];cases h1:ak a.a b.a<;>cases h2:ak a.i b.i<;>cases h3:ak a.n b.n<;>rfl
 t a b h:=n6 h
 refl a:=lw a
 same a:=by simp[aJ,mC,jC,j5,kT,ba]
 top a:=rfl
mutual
def nU:TUnit→Nat
 |⟨_,_,_,_,_,_,_,ks⟩=>1+ef ks
def ef:List TUnit→Nat
 |[]=>0
 |k::r=>nU k+ef r
end
mutual
def nC:TUnit→Nat
 |⟨_,_,_,_,_,_,_,ks⟩=>lZ ks
def lZ:List TUnit→Nat
 |[]=>0
 |k::r=>Nat.max (1+nC k) (lZ r)
end
mutual
def bW:TUnit→List TUnit
 |⟨x1,x2,x3,x4,x5,x6,x7,ks⟩=>⟨x1,x2,x3,x4,x5,x6,x7,ks⟩::dQ ks
def dQ:List TUnit→List TUnit
 |[]=>[]
 |k::r=>bW k++dQ r
end
mutual
def aF(p:PId):TUnit→List TUnit
 |⟨x1,x2,x3,x4,x5,x6,x7,ks⟩=>bif fI p ⟨x1,x2,x3,x4,x5,x6,x7,ks⟩then[⟨x1,x2,x3,x4,x5,x6,x7,ks⟩]else match ca p ks with
  |[]=>[]
  |y::t=>⟨x1,x2,x3,x4,x5,x6,x7,ks⟩::y::t
def ca(p:PId):List TUnit→List TUnit
 |[]=>[]
 |k::r=>match aF p k with
  |[]=>ca p r
  |y::t=>y::t
end
theorem jv(u:TUnit):nU u=1+ef u.kids:=by cases u;rw[nU];rfl
theorem mr:ef []=0:=by rw[ef]
theorem bi(k:TUnit)(r:List TUnit):ef (k::r)=nU k+ef r:=by rw[ef]
theorem Mu(u:TUnit):nC u=lZ u.kids:=by cases u;rw[nC];rfl
theorem Da:lZ []=0:=by rw[lZ]
theorem J7(k:TUnit)(r:List TUnit):lZ (k::r)=Nat.max (1+nC k) (lZ r):=by rw[lZ]
theorem co(u:TUnit):bW u=u::dQ u.kids:=by cases u;rw[bW];rfl
theorem fZ:dQ []=[]:=by rw[dQ]
theorem bf(k:TUnit)(r:List TUnit):dQ (k::r)=bW k++dQ r:=by rw[dQ]
def cR(u:TUnit):List PId:=(bW u).map ah
def bx(l:List TUnit):List PId:=(dQ l).map ah
theorem gQ(u:TUnit):cR u=ah u::bx u.kids:=by unfold cR bx;rw[co];rfl
theorem lk:bx []=[]:=by unfold bx;rw[fZ];rfl
theorem dC(k:TUnit)(r:List TUnit):bx (k::r)=cR k++bx r:=by grind[cR,bx,bf]
theorem Ed:∀{l:List TUnit}{k:TUnit},k∈l→nU k≤ef l
 |x::r,k,h=>by
  rw[bi];rcases ed.1 h with rfl|h
  ·omega
  ·have:=Ed h;omega
theorem gI{u k:TUnit}(h:k∈u.kids):nU k<nU u:=by rw[jv u];have:=Ed h;omega
theorem Jd(u:TUnit):0<nU u:=by grind[jv]
theorem yd:∀(l:List TUnit),l.length≤ef l
 |[]=>by simp_all
 |k::r=>by
  rw[bi,cM];have:=yd r;grind[Jd]
theorem bz(u:TUnit):u.kids.length<nU u:=by grind[jv,yd]
theorem NF{l:List TUnit}(h:∀k,k∈l→(bW k).length=nU k):(dQ l).length=ef l:=by
 induction l with
 |nil=>rw[fZ,mr];rfl
 |cons k r ih=>grind[bf,bi]
theorem zo:∀(u:TUnit),(bW u).length=nU u:=TUnit.ind fun u ih=>by grind[co,jv,NF]
theorem uM(u:TUnit):(cR u).length=nU u:=by grind[cR,zo]
theorem Ss{l:List TUnit}{n:Nat}(h:∀k,k∈l→1+nC k≤n):lZ l≤n:=by
 induction l with
 |nil=>grind[Da]
 |cons k r ih=>grind[J7]
theorem E1:∀(u:TUnit),nC u<nU u:=TUnit.ind fun u ih=>by
 have:lZ u.kids≤ef u.kids:=Ss fun k hk=>by have:=ih k hk;have:=Ed hk;omega
 grind[Mu,jv]
section
variable{p:PId}{u w:TUnit}{r:List TUnit}
theorem gw(u:TUnit):aF p u=bif fI p u then[u]else match ca p u.kids with|[]=>[]|y::t=>u::y::t:=by cases u;rw[aF];rfl
theorem jO:ca p []=[]:=by rw[ca]
theorem pV(k:TUnit)(r:List TUnit):ca p (k::r)=match aF p k with|[]=>ca p r|y::t=>y::t:=by rw[ca]
def b7(p:PId)(u:TUnit):Bool:=az (aF p u).isEmpty
theorem Ao(h:b7 p u=false):aF p u=[]:=by grind[b7]
theorem wV(h:b7 p u=true):∃y t,aF p u=y::t:=by
 unfold b7 at h;cases e:aF p u with
 |nil=>grind
 |cons x r=>simp_all
theorem ko(h:b7 p u=true):aF p u≠[]:=by grind[wV]
theorem tL(h:fI p u=true):aF p u=[u]:=by rw[gw,h];rfl
theorem EF(h:fI p u=true):b7 p u=true:=by unfold b7;rw[tL h];rfl
theorem ii(h:b7 p w=false):ca p (w::r)=ca p r:=by rw[pV,Ao h]
theorem oy(h:b7 p w=true):ca p (w::r)=aF p w:=by grind[wV,pV]
theorem Pd(h:fI p u=false)(h2:ca p u.kids=ca p []):aF p u=[]:=by rw[gw,h,h2,jO];rfl
theorem Hz(h:fI p u=false)(h2:ca p u.kids=ca p []):b7 p u=false:=by unfold b7;rw[Pd h h2];rfl
theorem KM(h:fI p u=false)(h2:ca p u.kids=ca p (w::r))(h3:b7 p w=true):aF p u=u::aF p w:=by grind[gw,oy,wV]
theorem Vr(h:fI p u=false)(h2:ca p u.kids=ca p (w::r))(h3:b7 p w=true):b7 p u=true:=by unfold b7;rw[KM h h2 h3];rfl
end
theorem mh{p:PId}:∀(u:TUnit),(aF p u).length≤nU u:=TUnit.ind fun u ih=>by
 rw[gw];cases fI p u with
 |true=>exact Jd u
 | false=>
  have key:∀(r:List TUnit),(∀k,k∈r→k∈u.kids)→(ca p r).length≤ef r:=by
   intro r;induction r with
   |nil=>grind[jO]
   |cons k r ihr=>grind[pV,bi]
  grind[jv]
def be:TUnit:=⟨0,0,0,0,[],[],[],[]⟩
noncomputable def dZ(p:PId)(u:TUnit):TUnit:=bif b7 p u then gD (aF p u) ((aF p u).length -1)else be
theorem KO{p:PId}:∀(u:TUnit)(x:TUnit),x∈aF p u→x∈bW u:=TUnit.ind fun u ih=>by
 intro x hx;rw[gw]at hx;rw[co];cases h:fI p u with
 |true=>simp_all
 | false=>
  rw[h]at hx;simp only[cond_false]at hx;have key:∀(r:List TUnit),(∀k,k∈r→k∈u.kids)→∀x,x∈ca p r→x∈dQ r:=by
   intro r;induction r with
   |nil=>grind[jO]
   |cons k r ihr=>grind[pV,bf]
  grind
noncomputable def qz(p:Int×aE):AV:=.agg [.int .i64 p.1,.str p.2]
def ku(a b:Int×aE):Bool:=ak a.1 b.1&&dL a.2 b.2
theorem rh:∀(s:aE),dL s s=true
 |[]=>rfl
 |c::r=>by simp only[dL,rh r,Bool.and_true];simp_all
theorem Dx:∀{a b:aE},dL a b=true→a=b
 |[],[],_=>rfl
 |c::r,d::q,h=>by
  simp only[dL,aO]at h;rw[Dx h.2,UInt8.toNat_inj.1 (qZ h.1)]
theorem LR:KeyOf (Int×aE) true 2 [(0,1),(1,2)] qz ku where
 eq a b:=by
  show xT [.int .i64 a.1,.str a.2] [.int .i64 b.1,.str b.2] [(0,1),(1,2)]=_
  simp only[xT,jt,TD,JT,kT,ku];cases h1:ak a.1 b.1<;>cases h2:dL a.2 b.2<;>rfl
 t a b h:=by
  simp only[ku,aO]at h;grind[iI,Dx]
 refl a:=by simp[ku,ba,rh]
 same a:=by simp[qz,mC,jC,j5,kT,ba,rh]
 top a:=rfl
noncomputable def dJ(b:Bool):AV:=.bool b
theorem AR(b:Bool):(dJ b).top=0:=rfl
def Al{K:Type}(keq:K→K→Bool)(k:K)(l:List (K×Bool)):Bool:=(mE keq k l).getD false
section
variable{K:Type}{ag:Bool}{sz:Nat}{lv:List (Nat×Nat)}{kenc:K→AV}{keq:K→K→Bool}
theorem AU(hk:KeyOf K ag sz lv kenc keq)(m:List (K×Bool))(k:K):eM (some (.bool false)) false (bj ag sz lv (kenc k) (bR kenc dJ m 0) 0)=some (.bool (Al keq k m)):=by
 rw[Ax hk];unfold Al;cases mE keq k m with
 |none=>rfl
 |some v=>rfl
theorem DG(hk:KeyOf K ag sz lv kenc keq)(m:List (K×Bool))(k:K):qC (bR kenc dJ m 0) m.length (kenc k) (.bool true) (bj ag sz lv (kenc k) (bR kenc dJ m 0) 0)=some (bR kenc dJ (eW keq k true m) 0,(eW keq k true m).length):=Cv (f:=dJ) hk k true m
end
def dz(l:List PWord):Bool:=az (ao 256 (.ofNat l.length))&&kX (l.map fun w=>w.text)
def lx(pk:Int):List TUnit→List ((Int×aE)×Bool)→Bool
 |[],_=>true
 |k::r,m=>iJ pk k.kind&&(az (Al ku (k.kind,k.label) m)&&lx pk r (eW ku (k.kind,k.label) true m))
def jH(u:TUnit):Bool:=(bif ak u.kind 0 then dL u.label []&&az (ao 0 (.ofNat (u.head.length+u.words.length)))else az (dL (dW u.kind) [])&&(fS u.label&&(dz u.head&&dz u.words)))&&(lx u.kind u.kids []&&az (ao 64 (.ofNat u.kids.length)))
def vc(q:TUnit→Bool)(u:TUnit):Bool:=(bW u).all q
theorem yA(q:TUnit→Bool)(u:TUnit):vc q u=(q u&&(dQ u.kids).all q):=by grind[vc,co]
theorem O0(q:TUnit→Bool):(dQ []).all q=true:=by rw[fZ];rfl
theorem Bd(q:TUnit→Bool)(k:TUnit)(r:List TUnit):(dQ (k::r)).all q=(vc q k&&(dQ r).all q):=by rw[bf,List.all_append];rfl
def Ch(l:List PId)(m:List (PId×Bool)):List (PId×Bool):=l.foldl (fun m p=>eW aT p true m) m
def b8:PId:=⟨0,0,0⟩
def RD(u:TUnit):Bool:=(Al aT b8 (Ch (cR u) [])&&ak (.ofNat (Ch (cR u) []).length) 1)||(ak (.ofNat (Ch (cR u) []).length) (.ofNat (cR u).length)&&(ak u.kind 0==fI b8 u))
def kV(u:TUnit):Bool:=vc jH u&&(az (ao 8 (.ofNat (nC u)))&&(az (ao 1024 (.ofNat (nU u)))&&RD u))
theorem bX{u k:TUnit}(h:k∈u.kids){x:TUnit}(hx:x∈bW k):x∈bW u:=by
 rw[co];refine eQ _ ?_;generalize u.kids=l at h;induction l with
 |nil=>grind
 |cons y r ih=>grind[bf]
theorem bq(u:TUnit):u∈bW u:=by grind[co]
theorem Er{u k:TUnit}(h:k∈u.kids):k∈bW u:=bX h (bq k)
end Go.Ev
namespace Go.Ev
open Go
def dc{α:Type}(q:α→α→Bool):List α→List α→Bool
 |[],[]=>true
 |x::l,y::m=>q x y&&dc q l m
 |_,_=>false
theorem oP{α:Type}{q:α→α→Bool}:∀{l m:List α},l.length≠m.length→dc q l m=false
 |[],[],h=>absurd rfl h
 |[],y::m,_=>rfl
 |x::l,[],_=>rfl
 |x::l,y::m,h=>by
  unfold dc;rw[oP (l:=l) (m:=m) (fun e=>h (by simp[e]))];exact yG _
section
variable{α:Type}[Inhabited α]{q:α→α→Bool}{l m x r:List α}{w:α}{j:Nat}
theorem sQ{m:List α}{j:Nat}(h:j<m.length):m.drop j=gD m j::m.drop (j+1):=by grind[List.drop_eq_getElem_cons,gD]
theorem lu(h1:l.drop j=x)(h2:x=w::r)(hl:l.length=m.length)(h3:dc q l m=dc q (w::r) (m.drop (l.length-(w::r).length))):dc q l m=(q w (gD m j)&&dc q r (m.drop (l.length-r.length))):=by
 have e:=congrArg List.length (h1.trans h2);simp only[wo,cM]at e;rw[h3,(oS h1 h2).1,(oS h1 h2).2,sQ (by omega),dc]
omit [Inhabited α]in
theorem rf(hl:l.length=m.length)(h3:dc q l m=dc q [] (m.drop (l.length-([]:List α).length))):dc q l m=true:=by rw[h3,gT,Nat.sub_zero,hl,List.drop_length];rfl
end
def PK(a b:PWord):Bool:=dL a.text b.text&&(ak a.act b.act&&(ak a.item b.item&&ak a.at_ b.at_))
mutual
def On:TUnit→TUnit→Bool
 |⟨a,i,n,k,l,h,w,ks⟩,v=>aT ⟨a,i,n⟩ (ah v)&&(ak k v.kind&&(dL l v.label&&(dc PK h v.head&&(dc PK w v.words&&Om ks v.kids))))
def Om:List TUnit→List TUnit→Bool
 |[],[]=>true
 |k::r,[]=>false
 |k::r,x::s=>On k x&&Om r s
 |[],x::s=>false
end
theorem Yr(u v:TUnit):On u v=(aT (ah u) (ah v)&&(ak u.kind v.kind&&(dL u.label v.label&&(dc PK u.head v.head&&(dc PK u.words v.words&&dc On u.kids v.kids))))):=by
 have key:∀(l m:List TUnit),Om l m=dc On l m:=by
  intro l;induction l with
  |nil=>intro m;cases m<;>(rw[Om];rfl)
  |cons x l ih=>intro m;cases m with|nil=>rw[Om];rfl|cons y m=>rw[Om,ih];rfl
 cases u
 rw[On,key];rfl
end Go.Ev
namespace Go.Ev
open Go
def Iu(u v:AV):Prop:=(Sc v→Sc u)∧Les u.cells v.cells
theorem Iu.refl(v:AV):Iu v v:=⟨id,Les.refl _⟩
theorem Iu.one{u v:AV}(hu:u.cells=[u])(hv:v.cells=[v])(hs:cO u=true)(h:Le u v):Iu u v:=⟨fun _ y hy=>by simp_all,by rw[hu,hv];exact .cons h .nil⟩
inductive LesC:List AV→List AV→Prop
 |nil:LesC [] []
 |cons {u v:AV} {us vs:List AV} (h:Iu u v) (k:LesC us vs):LesC (u::us) (v::vs)
theorem LesC.len{us vs:List AV}(h:LesC us vs):us.length=vs.length:=by
 induction h with
 |nil=>rfl
 |cons _ _ ih=>simp_all
theorem LesC.at_{us vs:List AV}(h:LesC us vs):∀(j:Nat)(u:AV),us[j]?=some u→∃v,vs[j]?=some v∧Iu u v:=by
 induction h with
 |nil=>simp_all
 |cons h k ih=>grind
theorem Fb{xs ys:List AV}{t:Bool}(h:LesC xs ys):Le (.ps xs false) (.ps ys t):=fun pl M v hv=>by
 cases hv with
 | @ps _ _ a cap sz c hl ht hm hs hc=>
  rw[←h.len];refine .ps (sz:=sz) (c:=c) (by rw[h.len];omega) (fun h=>by grind) (fun hx=>?_) (fun x hx=>?_) fun i x j y hx hy=>?_
  ·have:ys≠[]:=fun e=>hx (qK (by rw[h.len,e];rfl))
   rw[h.len];simp_all
  ·obtain⟨i,hi⟩:=CV hx;obtain⟨y,h1,h2,h3⟩:=h.at_ i x hi;have:=hs y (bC h1);exact⟨h3.len.trans this.1,h2 this.2⟩
  ·obtain⟨z,h1,_,h3⟩:=h.at_ i x hx;obtain⟨d,h4,h5⟩:=h3.at_ j y hy;exact h5 _ _ _ (hc i z j d h1 h4)
theorem ZQ{xs ys:List AV}{t:Bool}(h:LesC xs ys)(h0:aq xs=0):Le (.ls xs) (.ps ys t):=fun pl M v hv=>.lsp (Fb h pl M v hv) h0
theorem ZZ{xs ys:List AV}(h:LesC xs ys)(h0:aq xs=0):Le (.ls xs) (.ls ys):=fun pl M v hv=>by
 cases hv with
 |lsn=>cases h;exact .lsn
 |lsp hv _=>exact .lsp (Fb h pl M v hv) h0
theorem Le.pls{x:AV}{xs ys:List AV}(h:LesC (x::xs) ys):Le (.ps (x::xs) false) (.ls ys):=fun pl M v hv=>by
 cases hv with
 |lsn=>cases h
 |lsp hv _=>exact Fb h pl M v hv
mutual
def Bm:AV→AV→Bool
 | .ls xs,.nils=>xs.isEmpty
 | .ls xs,.ps ys _=>kI xs ys&&Nat.beq (aq xs) 0
 | .ls xs,.ls ys=>kI xs ys&&Nat.beq (aq xs) 0
 | .ps (x::xs) false,.ls ys=>kI (x::xs) ys
 | .ps xs false,.ps ys _=>kI xs ys
 | .agg us,.agg vs=>kI us vs&&us.all cO
 |u,v=>AV.same u v
def kI:List AV→List AV→Bool
 |[],[]=>true
 |a::us,b::vs=>Bm a b&&kI us vs
 |_,_=>false
end
theorem Iu.same{u v:AV}(h:AV.same u v=true):Le u v∧Iu u v:=by grind[AV.same_eq,Le.refl,Iu.refl]
mutual
theorem wi:∀(u v:AV),Bm u v=true→Le u v∧Iu u v:=fun u v h=>by
 unfold Bm at h;split at h
 ·rename_i xs;have e:xs=[]:=by simp_all
  subst e;exact⟨Le.nils,Iu.one rfl rfl rfl Le.nils⟩
 ·rename_i xs ys t;have h:=ql.1 h;have k:=ZQ (t:=t) (jL xs ys h.1).2 (qZ h.2);exact⟨k,Iu.one rfl rfl rfl k⟩
 ·rename_i xs ys;have h:=ql.1 h;have k:=ZZ (jL xs ys h.1).2 (qZ h.2);exact⟨k,Iu.one rfl rfl rfl k⟩
 ·rename_i x xs ys;have k:=Le.pls (jL (x::xs) ys h).2;exact⟨k,Iu.one rfl rfl rfl k⟩
 ·rename_i xs ys t;have k:=Fb (t:=t) (jL xs ys h).2;exact⟨k,Iu.one rfl rfl rfl k⟩
 ·rename_i us vs;have h:=ql.1 h;have k:=jL us vs h.1;exact⟨aR k.1 h.2,fun _ y hy=>kO.1 h.2 y hy,k.1⟩
 ·exact Iu.same h
theorem jL:∀(us vs:List AV),kI us vs=true→Les us vs∧LesC us vs:=fun us vs h=>by
 unfold kI at h;split at h
 ·exact⟨.nil,.nil⟩
 ·rename_i a us b vs;have h:=ql.1 h;have h1:=wi a b h.1;have h2:=jL us vs h.2;exact⟨.cons h1.1 h2.1,.cons h1.2 h2.2⟩
 ·grind
end
section
variable{P:Program}{G:eN}{f:FuncId}{a b:List AV}{u v:AV}
theorem bQ.args(h:bQ P G f a v)(hl:Les a b):bQ P G f b v:=fun hp pl M w vs hg hr hv=>h hp pl M w vs hg hr (hv.le hl)
theorem bQ.lessB(h:bQ P G f a v)(hl:Bm u v=true):bQ P G f a u:=h.less (wi _ _ hl).1
theorem XS(a b:Nat):CR (.ofNat a) (.ofNat b)=.ofNat (Nat.max a b):=by
 unfold CR;cases h:ao (.ofNat a) (.ofNat b)with
 |true=>
  have h:=ae h;grind
 |false=>
  have h:=af h;simp_all
theorem lQ{xs ys:List AV}{i t:Nat}{r:List (Nat×Nat)}{x y:AV}{e c:Bool}(hx:jt xs i=some x)(hy:jt ys i=some y)(h:JT t x y=some e)(k:xT xs ys r=some c):xT xs ys ((i,t)::r)=some (e&&c):=by
 simp only[xT,hx,hy,TD,h];cases e with
 |true=>exact k
 |false=>rfl
theorem uR{xs ys:List AV}{i t:Nat}{r:List (Nat×Nat)}{x y:AV}{e:Bool}(hx:jt xs i=some x)(hy:jt ys i=some y)(h:JT t x y=some e)(k:xT xs ys r=some true):xT xs ys ((i,t)::r)=some e:=by
 simp only[xT,hx,hy,TD,h];cases e with
 |true=>exact k
 |false=>rfl
theorem sq{d:Option TypeDesc}{n:Nat}{l:List (Nat×Nat)}{xs ys:List AV}{c:Bool}{H:AHeap}(hn:(Nat.beq xs.length n&&Nat.beq ys.length n)=true)(hl:xT xs ys l=some c):
  bc H (TN (qb .eql d (some true) (some n) (some l)) (some (.agg xs)) (some (.agg ys)))=some (.val (.bool c) H):=by
 grind[TN,qb,Yt,pc,bc]
theorem Fz{d:Option TypeDesc}{n:Nat}{l:List (Nat×Nat)}{xs ys:List AV}{c:Bool}{H:AHeap}(hn:(Nat.beq xs.length n&&Nat.beq ys.length n)=true)(hl:xT xs ys l=some c):
  bc H (TN (qb .neq d (some true) (some n) (some l)) (some (.agg xs)) (some (.agg ys)))=some (.val (.bool (!c)) H):=by
 grind[TN,qb,Yt,pc,bc]
def xa:List (FuncId×List AV×AV)→aaE
 |[],_,_,_=>none
 |x::r,g,b,h=>match Nat.beq g x.1 with
  |true=>(match kI x.2.1 b with|true=>some (x.2.2,h)|false=>xa r g b h)
  |false=>xa r g b h
theorem Am:∀{L:List (FuncId×List AV×AV)}{g:FuncId}{h h1:AHeap}{v1:AV},xa L g b h=some (v1,h1)→∃x,x∈L∧g=x.1∧kI x.2.1 b=true∧v1=x.2.2∧h1=h
 |[],_,_,_,_,e=>by grind[xa]
 | x::r,g,h,h1,v1,e=>by
  unfold xa at e;have next:xa r g b h=some (v1,h1)→∃y,y∈x::r∧g=y.1∧kI y.2.1 b=true∧v1=y.2.2∧h1=h:=fun e=>
   let⟨y,k,q⟩:=Am e
   ⟨y,eQ _ k,q⟩
  grind[Nat.eq_of_beq_eq_true]
theorem RI{C:Cfg}{L:List (FuncId×List AV×AV)}(hC:C.hook=xa L)(hL:∀x,x∈L→bQ C.P C.G x.1 x.2.1 x.2.2):Ki C:=fun g b hp v1 h1 e pl M w vs hg hr hv=>by
 rw[hC]at e;obtain⟨x,hx,rfl,hl,rfl,rfl⟩:=Am e;rcases hL x hx h1 pl M w vs hg hr (hv.le (jL _ _ hl).1)with⟨k1,k2⟩|⟨cv,w',v2,h2,k1,⟨rfl,rfl⟩,k3⟩
 ·refine .inl ⟨k1,fun cs=>?_⟩;obtain⟨en,w',fr,⟨cv,v2,h2,e1,⟨rfl,rfl⟩,k3⟩,r⟩:=k2 cs;grind
 ·exact .inr ⟨cv,w',k1,k3⟩
def Zn(v:AV):Option (AV×AHeap)→Bool
 |some (u,_)=>Bm v u&&Nat.beq u.top 0
 |none=>false
theorem bQ.closed{C:Cfg}{k:Nat}(hG:jW C.G)(ev:ch C.P C.G (iR C k))(ht:aq a=0)(h:Zn v (iR C k f a AHeap.none)=true):bQ C.P C.G f a v:=by
 cases hx:iR C k f a AHeap.none with
 |none=>rw[hx]at h;cases h
 |some r=>
  obtain⟨u,h1⟩:=r;rw[hx]at h;have h:=ql.1 h;exact(o8 hG ht (qZ h.2) ((aI.of ev hx).mono fun v1 _ e=>e.1)).lessB h.1
end
end Go.Ev
namespace Go.Ev
open Go
theorem bQ.ls0{P:Program}{G:eN}{f:FuncId}{r:List AV}{v:AV}(h1:bQ P G f (.nils::r) v)(h2:bQ P G f (.ps [] false::r) v):bQ P G f (.ls []::r) v:=fun h=>Ff (fun _ _ _ hv=>VRels.first hv fun _ hv=>hv.ls0) (h1 h) (h2 h)
theorem Sq{p:PId}{u:TUnit}(h:b7 p u=true):dZ p u∈aF p u:=by
 unfold dZ;rw[h];have:=qr.2 (ko h);grind[fp]
theorem Bc:∀(u:TUnit),dM u=(bW u).flatMap fc:=by
 refine TUnit.ind fun u ih=>?_
 rw[vb,co,B9];congr 1;have key:∀(l:List TUnit),(∀k,k∈l→k∈u.kids)→fj l=(dQ l).flatMap fc:=by
  intro l;induction l with
  |nil=>intro _;rw[lg,fZ];rfl
  |cons k r ihr=>grind[dU,bf]
 simp_all
theorem Pe{p:PId}:∀(u:TUnit),b7 p u=true→ah (dZ p u)=p:=by
 refine TUnit.ind fun u ih h=>?_
 unfold dZ;rw[h];simp only[cond_true];cases hh:fI p u with
 |true=>rw[tL hh];exact n6 hh
 | false=>
  have key:∀(r:List TUnit),(∀k,k∈r→k∈u.kids)→ca p r≠[]→ah (gD (ca p r) ((ca p r).length -1))=p:=by
   intro r;induction r with
   |nil=>grind[jO]
   |cons k r ihr=>grind[oy,dZ,ii]
  have k2:=key u.kids fun _ h=>h
  obtain⟨y,t,e⟩:=wV h;rw[gw,hh]at e ⊢;grind[gD]
theorem L6{p:PId}:∀(u:TUnit),(∃x,x∈bW u∧ah x=p)→b7 p u=true:=by
 refine TUnit.ind fun u ih ⟨x,hx,hp⟩=>?_
 cases hh:fI p u with
 |true=>grind[EF]
 | false=>
  rw[co]at hx;rcases ed.1 hx with rfl|hx
  ·simp_all[fI,lw]
  ·have key:∀(l:List TUnit),(∀k,k∈l→k∈u.kids)→x∈dQ l→ca p l≠[]:=by
    intro l;induction l with
    |nil=>grind[fZ]
    |cons k r ihr=>grind[bf,b7,oy,ii]
   grind[b7,gw]
theorem CO{α β:Type}{f:α→β}:∀{l:List α},(l.map f).Nodup→∀{x y:α},x∈l→y∈l→f x=f y→x=y
 | a::l,h,x,y,hx,hy,e=>by
  rw[dl,tD]at h;rcases ed.1 hx with h1|h1
  ·grind
  ·rcases ed.1 hy with h2|h2
   ·simp_all
   ·exact CO h.2 h1 h2 e
theorem Dw{K V:Type}{kenc:K→AV}{f:V→AV}:∀(l:List (K×V))(i:Nat),(bR kenc f l i).length=l.length
 |[],_=>rfl
 |(k,v)::r,i=>by rw[bR,cM,Dw r,cM]
theorem Nh(m:List (PId×Bool)):Ch [] m=m:=rfl
theorem Sf{n:Nat}(h:0<n):ak (Int.ofNat n) 0=false:=by grind[lr]
def DY(p:PId):TUnit→Option TUnit:=fun u=>(bW u).find? (fI p)
theorem TI{p:PId}:∀(u:TUnit),(b7 p u=true→DY p u=some (dZ p u))∧(b7 p u=false→DY p u=none):=by
 refine TUnit.ind fun u ih=>?_
 unfold DY;rw[co];cases hh:fI p u with
 |true=>
  rw[List.find?_cons_of_pos (by omega)];refine⟨fun h=>?_,fun h=>by grind[EF]⟩;unfold dZ;rw[h,tL hh];rfl
 | false=>
  rw[List.find?_cons_of_neg (by simp_all)];have key:∀(r:List TUnit),(∀k,k∈r→k∈u.kids)→(ca p r≠[]→(dQ r).find? (fI p)=some (gD (ca p r) ((ca p r).length -1)))∧(ca p r=[]→(dQ r).find? (fI p)=none):=by
   intro r;induction r with
   |nil=>grind[jO,fZ]
   |cons k r ihr=>
    intro hm;have ik:=ih k (hm k (eG ..));have ir:=ihr fun z hz=>hm z (eQ _ hz)
    rw[bf,List.find?_append];cases hk:b7 p k with
    |true=>grind[DY,oy,ko,dZ]
    |false=>grind[DY,ii]
  have k2:=key u.kids fun _ h=>h
  refine⟨fun h=>?_,fun h=>?_⟩
  ·obtain⟨y,t,e⟩:=wV h;unfold dZ;rw[h,gw,hh];rw[gw,hh]at e;grind[gD]
  ·have e:=Ao h;grind[gw]
theorem fx(p:PId)(u:TUnit):fI p u=true↔ah u=p:=⟨n6,fun h=>by simp_all[fI,lw]⟩
theorem Jz{y x:TUnit}:∀(u:TUnit),y∈bW u→x∈bW y→x∈bW u:=by
 refine TUnit.ind fun u ih h hx=>?_
 rw[co]at h ⊢;rcases ed.1 h with rfl|h
 ·grind[co]
 ·refine eQ _ ?_;have key:∀(l:List TUnit),(∀k,k∈l→k∈u.kids)→y∈dQ l→x∈dQ l:=by
   intro l;induction l with
   |nil=>grind[fZ]
   |cons k r ihr=>grind[bf]
  simp_all
theorem eD{y x u:TUnit}(h:y∈bW u)(hx:x∈bW y):x∈bW u:=Jz u h hx
theorem Qa{x:TUnit}:∀(u:TUnit),x∈bW u→nU x≤nU u:=by
 refine TUnit.ind fun u ih h=>?_
 rw[co]at h;rcases ed.1 h with rfl|h
 ·omega
 ·have key:∀(l:List TUnit),(∀k,k∈l→k∈u.kids)→x∈dQ l→nU x<nU u:=by
   intro l;induction l with
   |nil=>grind[fZ]
   |cons k r ihr=>grind[bf,Nat.lt_of_le_of_lt,gI]
  grind
theorem eJ{x u:TUnit}(h:x∈bW u):nU x≤nU u:=Qa u h
section
variable{p:PId}{u w:TUnit}{r:List TUnit}
end
end Go.Ev
namespace Go.Ev
open Go
def kr(a b:PStep):Bool:=ak a.kind b.kind&&dL a.label b.label
mutual
def EP:PItem→PItem→Bool
 |⟨k,a,t,w,n,u,o,ne,l,f,s,ac,im,d,e,bs⟩,v=>
  (ak k v.kind&&(ak w v.where_&&(ak n v.nth_&&(ak ac v.act&&(ak im v.item&&ak d v.day)))))
  &&((dL l v.label&&(dL f v.for_&&(dL e v.event&&(ak s.kind v.start.kind&&(ak s.day v.start.day&&dL s.event v.start.event)))))
  &&((dc kr a v.at_&&(dc kr t v.to&&(dc dL o v.old&&dc dL ne v.new)))
  &&(On u v.unit&&Dz bs v.by_)))
def Dz:List PItem→List PItem→Bool
 |[],[]=>true
 |k::r,[]=>false
 |k::r,x::s=>EP k x&&Dz r s
 |[],x::s=>false
end
theorem Se:∀(l m:List PItem),Dz l m=dc EP l m:=by
 intro l;induction l with
 |nil=>intro m;cases m<;>(rw[Dz];rfl)
 |cons x l ih=>intro m;cases m with|nil=>rw[Dz];rfl|cons y m=>rw[Dz,ih];rfl
theorem V2(u v:PItem):EP u v=((ak u.kind v.kind&&(ak u.where_ v.where_&&(ak u.nth_ v.nth_&&(ak u.act v.act&&(ak u.item v.item&&ak u.day v.day)))))
  &&((dL u.label v.label&&(dL u.for_ v.for_&&(dL u.event v.event&&(ak u.start.kind v.start.kind&&(ak u.start.day v.start.day&&dL u.start.event v.start.event)))))
  &&((dc kr u.at_ v.at_&&(dc kr u.to v.to&&(dc dL u.old v.old&&dc dL u.new v.new)))
  &&(On u.unit v.unit&&dc EP u.by_ v.by_)))):=by
 cases u
 rw[EP,Se];rfl
noncomputable def Ec(s:aE):Bool:=az (ao (.ofNat s.length) 1)&&(az (ao 16 (.ofNat s.length))&&(az (ao (.ofNat (gD s 0).toNat) 97)&&(az (ao 122 (.ofNat (gD s 0).toNat))&&dL (Lib.trimS s [97,98,99,100,101,102,103,104,105,106,107,108,109,110,111,112,113,114,115,116,117,118,119,120,121,122,48,49,50,51,52,53,54,55,56,57,45]) [])))
def sV(n:Bool)(s:PStart):Bool:=bif ak s.kind 0||ak s.kind 2 then ak s.day 0&&dL s.event []else bif ak s.kind 1 then(az (ao s.day 0)&&az (ao 1048576 s.day))&&dL s.event []else bif ak s.kind 3 then ak s.day 0&&n else false
end Go.Ev
namespace Go.Ev
open Go
def bB(s:PStep)(u:TUnit):Bool:=ak u.kind s.kind&&dL u.label s.label
def gH:List PStep→List TUnit→List TUnit
 |[],l=>l
 |s::r,l=>gH r (l.flatMap fun x=>x.kids.filter (bB s))
def eb(u:TUnit)(p:List PStep):List TUnit:=bif lX p then(match p with
 |[]=>[u]
 |s::r=>gH r (bif nI s then[u]else(bW u).filter (bB s)))else[]
noncomputable def aC(u:TUnit)(p:List PStep):PId×Int:=match eb u p with
 |[]=>(b8,7)
 |[x]=>(ah x,0)
 |_=>(b8,8)
def gP(p:PId)(u:TUnit):Bool:=az (ao (.ofNat (aF p u).length) 2)
noncomputable def II(p:PId)(u:TUnit):TUnit:=gD (aF p u) ((aF p u).length -2)
noncomputable def rQ(p:PId)(u:TUnit):PId:=bif gP p u then ah (II p u)else b8
noncomputable def rZ(p:PId)(u:TUnit):Int:=bif gP p u then dE (b7 p) (II p u).kids 0 else -1
def qc(p:PId)(u:TUnit):List PId:=(((aF p u).take ((aF p u).length -1)).map ah).reverse
structure PSpot where
 id:PId
 at_:Int
 deriving Inhabited
noncomputable def fu(s:PSpot):AV:=.agg [.int .i64 s.id.a,.int .i64 s.id.i,.int .i64 s.id.n,.int .i64 s.at_]
def dP:PSpot:=⟨b8,0⟩
noncomputable def n9(u:TUnit)(p:PId)(n:Int):PSpot×Int:=bif gP p u then(⟨rQ p u,rZ p u+n⟩,0)else(dP,9)
noncomputable def dY(w:Int)(u:TUnit)(p:PId):PSpot×Int:=bif ak w 0 then(⟨p,0⟩,0)else bif ak w 1 then(⟨p,.ofNat (dZ p u).kids.length⟩,0)else bif ak w 2 then n9 u p 1 else n9 u p 0
def iM(n:Int):Bool:=az (ao n 0)&&az (ao 3 n)
def bg(act item:Int):List aE→Nat→List PWord
 |[],_=>[]
 |s::r,n=>⟨s,act,item,.ofNat n⟩::bg act item r (n+1)
def aL(l:List PWord):List aE:=l.map fun w=>w.text
theorem fX(a i:Int):∀(l:List aE)(n:Nat),(bg a i l n).length=l.length
 |[],_=>rfl
 |s::r,n=>by rw[bg,cM,fX a i r,cM]
mutual
def cQ(a i:Int):TUnit→Nat→Nat→TUnit
 |⟨_,_,_,k,l,h,ws,ks⟩,n,w=>⟨a,i,.ofNat (n+1),k,l,bg a i (aL h) w,bg a i (aL ws) (w+h.length),cE a i ks (n+1) (w+h.length+ws.length)⟩
def cE(a i:Int):List TUnit→Nat→Nat→List TUnit
 |[],_,_=>[]
 |k::r,n,w=>cQ a i k n w::cE a i r (n+nU k) (w+(dM k).length)
end
theorem od(a i:Int)(u:TUnit)(n w:Nat):cQ a i u n w=⟨a,i,.ofNat (n+1),u.kind,u.label,bg a i (aL u.head) w,bg a i (aL u.words) (w+u.head.length),cE a i u.kids (n+1) (w+u.head.length+u.words.length)⟩:=by cases u;rw[cQ];rfl
theorem qE(a i:Int)(n w:Nat):cE a i [] n w=[]:=by rw[cE]
theorem DS(a i:Int)(k:TUnit)(r:List TUnit)(n w:Nat):cE a i (k::r) n w=cQ a i k n w::cE a i r (n+nU k) (w+(dM k).length):=by rw[cE]
def vS(part:List aE):Nat→List aE→Nat→List Nat
 |0,_,_=>[]
 |f+1,l,i=>bif Nat.ble (i+part.length) l.length then(bif dc dL ((l.drop i).take part.length) part then i::vS part f l (i+part.length)else vS part f l (i+1))else[]
def rJ(l part:List aE):List Nat:=bif part.isEmpty then[]else vS part (l.length+1) l 0
end Go.Ev
namespace Go.Ev
open Go
theorem Sn{p:UInt8→Bool}{s:aE}{n:Nat}(h:∀j,j<n→p (gD s j)=true)(hn:p (gD s n)=true):∀j,j<n+1→p (gD s j)=true:=fun j hj=>by grind
theorem Vu{s:aE}:∀{n i:Nat},i<n→gD (s.take n) i=gD s i:=fun{n i} h=>by
 induction s generalizing n i with
 |nil=>simp
 | cons c r ih=>
  cases n with
  |zero=>omega
  |succ n=>
   cases i with
   |zero=>rfl
   |succ i=>exact ih (by omega)
theorem OJ(s:aE):fS s=(az (ao (.ofNat (da gZ s)) 1)&&(az (ao 4 (.ofNat (da gZ s)))&&(az (ak (.ofNat (gD s 0).toNat) 48)&&(az (ao 3 (.ofNat (s.length-da gZ s)))&&(s.drop (da gZ s)).all BT)))):=by
 have hl:=uU (p:=gZ) (s:=s);have h1:(s.take (da gZ s)).length=da gZ s:=by simp_all
 unfold fS;rw[h1,wo];by_cases h0:da gZ s=0
 ·rw[h0];rfl
 grind[Vu]
theorem Hd{s:aE}:∀{n i:Nat},n+i<s.length→gD (s.drop n) i=gD s (n+i):=fun{n i} h=>by
 induction n generalizing s with
 |zero=>simp
 | succ n ih=>
  cases s with
  |nil=>simp_all
  |cons c r=>
   have:=ih (s:=r) (by grind);rw[show n+1+i=(n+i)+1 by omega];exact this
theorem Tc{p:UInt8→Bool}:∀{s:aE},(∀i,i<s.length→p (gD s i)=true)→s.all p=true
 |[],_=>rfl
 |c::r,h=>by rw[qn,show p c=true from h 0 (Nat.zero_lt_succ _),Tc (s:=r) fun i hi=>h (i+1) (Nat.succ_lt_succ hi)];rfl
theorem Du{p:UInt8→Bool}:∀{s:aE}{i:Nat},i<s.length→p (gD s i)=false→s.all p=false
 |[],_,h,_=>absurd h (qX _)
 |c::r,0,_,h=>by rw[qn,show p c=false from h];rfl
 |c::r,i+1,h1,h2=>by rw[qn,Du (s:=r) (i:=i) (by simpa using h1) h2];simp
theorem PD{p:UInt8→Bool}{s:aE}{n:Nat}(h:∀j,n≤j→j<s.length→p (gD s j)=true):(s.drop n).all p=true:=
 Tc fun i hi=>by grind[Hd]
theorem K4{p:UInt8→Bool}{s:aE}{n i:Nat}(h1:n≤i)(h2:i<s.length)(h3:p (gD s i)=false):(s.drop n).all p=false:=Du (i:=i-n) (by grind) (by grind[Hd])
theorem Ny{p:UInt8→Bool}{s:aE}{n i:Nat}(h:∀j,n≤j→j<i→p (gD s j)=true)(hi:p (gD s i)=true):∀j,n≤j→j<i+1→p (gD s j)=true:=fun j h1 h2=>by grind
theorem jq{s u:List UInt8}{H:AHeap}(h:s.length+u.length≤2^62):bc H (Wi (.str s) (.str u))=some (.val (.str (s++u)) H):=by grind[Nat.ble_eq_true_of_le,Wi,bc]
end Go.Ev
namespace Go.Ev
open Go
def pn(w:PWord):Bool:=az (ak w.act 0&&(ak w.item 0&&ak w.at_ 0))
def Do(x:TUnit):Bool:=fI b8 x&&(az (x.head.any pn)&&az (x.words.any pn))
def Dp(u:TUnit):Bool:=kV u&&vc Do u
def iW(w:PWord):PWord:=⟨w.text,0,0,0⟩
mutual
def cN:TUnit→TUnit
 |⟨_,_,_,k,l,h,w,ks⟩=>⟨0,0,0,k,l,h.map iW,w.map iW,uZ ks⟩
def uZ:List TUnit→List TUnit
 |[]=>[]
 |k::r=>cN k::uZ r
end
theorem zZ:∀(l:List TUnit),uZ l=l.map cN
 |[]=>by rw[uZ];rfl
 |k::r=>by rw[uZ,zZ r];rfl
theorem mG(u:TUnit):cN u=⟨0,0,0,u.kind,u.label,u.head.map iW,u.words.map iW,u.kids.map cN⟩:=by cases u;rw[cN,zZ];rfl
theorem RL{p:PId}{u:TUnit}(h:b7 p u=false):gP p u=false:=by unfold gP;rw[Ao h];rfl
theorem XD{p:PId}{u:TUnit}(h:gP p u=false):rQ p u=b8:=by unfold rQ;simp_all
theorem Qh{p:PId}{u:TUnit}(h:gP p u=false):rZ p u= -1:=by unfold rZ;simp_all
theorem Jx{p:PId}{u:TUnit}(h:gP p u=true):rQ p u=ah (II p u):=by unfold rQ;simp_all
theorem Jj{p:PId}{u:TUnit}(h:gP p u=true):rZ p u=dE (b7 p) (II p u).kids 0:=by unfold rZ;simp_all
def o4(p:PId)(u:TUnit)(k:Nat):List PId:=((((aF p u).take ((aF p u).length -1)).drop k).map ah).reverse
theorem FU(p:PId)(u:TUnit):o4 p u 0=qc p u:=rfl
theorem Dt(p:PId)(u:TUnit):o4 p u ((aF p u).length -1)=[]:=by
 unfold o4;simp_all
theorem Bb(p:PId)(u:TUnit){k:Nat}(h:k+1<(aF p u).length):o4 p u k=o4 p u (k+1)++[ah (gD (aF p u) k)]:=by
 unfold o4;have h1:k<((aF p u).take ((aF p u).length -1)).length:=by grind
 rw[Pq h1,dl,List.reverse_cons];grind[gD]
theorem Ds(p:PId)(u:TUnit)(k:Nat):(o4 p u k).length≤(aF p u).length:=by grind[o4]
def lG(s:PStep)(u:TUnit):List TUnit:=(bW u).filter (bB s)
def de(s:PStep)(l:List TUnit):List TUnit:=(dQ l).filter (bB s)
theorem zp(s:PStep)(u:TUnit):lG s u=(bif bB s u then[u]else[])++de s u.kids:=by
 unfold lG de;rw[co,List.filter_cons];grind
theorem ny(s:PStep):de s []=[]:=by unfold de;rw[fZ];rfl
theorem g9(s:PStep)(k:TUnit)(r:List TUnit):de s (k::r)=lG s k++de s r:=by grind[lG,de,bf]
theorem mL(s:PStep)(u:TUnit):(lG s u).length≤nU u:=by grind[lG,zo]
theorem tZ:∀(l m:List TUnit),ef (l++m)=ef l+ef m
 |[],m=>by rw[mr,qW,gr]
 |x::r,m=>by rw[yI,bi,bi,tZ r m,Nat.add_assoc]
theorem zR(q:TUnit→Bool):∀(l:List TUnit),ef (l.filter q)≤ef l
 |[]=>by simp_all
 |x::r=>by
  rw[List.filter_cons,bi];have:=zR q r;cases q x with
  |true=>rw[if_pos rfl,bi];omega
  |false=>grind
theorem zP(q:TUnit→Bool):∀(l:List TUnit),ef (l.flatMap fun x=>x.kids.filter q)≤ef l
 |[]=>by simp_all
 |x::r=>by
  rw[B9,tZ,bi];have:=zP q r;grind[zR,jv]
theorem Lr{n:Nat}:∀(l:List TUnit),(∀x,x∈l→nU x≤n)→ef l≤n*l.length
 |[],_=>by simp_all[mr]
 |x::r,h=>by
  rw[bi,cM,Nat.mul_add,Nat.mul_one];have:=h x (eG ..);have:=Lr r fun y hy=>h y (eQ _ hy)
  omega
theorem GB(s:PStep)(u:TUnit)(hp:∀x,x∈bW u→nU x≤nU u):ef (lG s u)≤nU u*nU u:=by
 have h1:=Lr (n:=nU u) (lG s u) fun x hx=>hp x (yC.1 hx).1
 exact bL h1 (Nat.mul_le_mul_left _ (mL s u))
theorem I0(l:List TUnit):gH [] l=l:=rfl
theorem JF{u:TUnit}{p:List PStep}(h:lX p=false):eb u p=[]:=by unfold eb;simp_all
theorem He{u:TUnit}(h:lX []=true):eb u []=[u]:=by unfold eb;simp_all
theorem Hf{u:TUnit}{s:PStep}{r:List PStep}(h:lX (s::r)=true)(hb:nI s=true):eb u (s::r)=gH r [u]:=by
 unfold eb;simp_all
theorem xe{u:TUnit}{s:PStep}{r:List PStep}(h:lX (s::r)=true)(hb:nI s=false):eb u (s::r)=gH r (lG s u):=by
 unfold eb;rw[h];show gH r (bif nI s then[u]else(bW u).filter (bB s))=_
 rw[hb];rfl
def cC(s:PStep)(l:List TUnit):List TUnit:=l.flatMap fun x=>x.kids.filter (bB s)
section
variable{s:PStep}{l m r r1 X:List TUnit}{w w1:TUnit}{n N:Nat}{rs0:List PStep}{R at0:List TUnit}
theorem Jm:cC s []=[]:=rfl
theorem xk:cC s (w::r)=w.kids.filter (bB s)++cC s r:=by grind[cC]
theorem I1(rs:List PStep):gH (s::rs) l=gH rs (cC s l):=rfl
theorem GC:ef (cC s l)≤ef l:=zP _ l
theorem fA(h:R=gH (s::rs0) l∧ef l≤N)(e:cC s []=cC s l):R=gH rs0 []∧ef []≤N:=⟨by rw[h.1,I1,←e];rfl,by simp_all[mr]⟩
theorem fB(h:R=gH (s::rs0) l∧ef l≤N)(e:m++cC s []=cC s l):R=gH rs0 m∧ef m≤N:=by grind[Jm,I1,GC]
theorem gA(h:cC s (w1::r1)=X):w1.kids.filter (bB s)++cC s r1=X:=xk.symm.trans h
theorem gB(h:n=m.length∧m++cC s (w1::r1)=X∧m.length+ef (w1::r1)<N):n=m.length∧m++(w1.kids.filter (bB s)++cC s r1)=X∧m.length+(ef w1.kids+ef r1)<N:=⟨h.1,xk (s:=s)▸h.2.1,by grind[bi,jv]⟩
theorem hA0(h:(w::r).filter (bB s)++cC s r1=X)(q:bB s w=false):r.filter (bB s)++cC s r1=X:=by simp_all
theorem hB0(h:n=m.length∧m++((w::r).filter (bB s)++cC s r1)=X∧m.length+(ef (w::r)+ef r1)<N)(q:bB s w=false):n=m.length∧m++(r.filter (bB s)++cC s r1)=X∧m.length+(ef r+ef r1)<N:=⟨h.1,by simp_all,by grind[bi]⟩
theorem hB1(h:n=m.length∧m++((w::r).filter (bB s)++cC s r1)=X∧m.length+(ef (w::r)+ef r1)<N)(q:bB s w=true):n+1=(m++[w]).length∧(m++[w])++(r.filter (bB s)++cC s r1)=X∧(m++[w]).length+(ef r+ef r1)<N:=⟨by simp_all,by simp_all,by grind[Jd,bi]⟩
end
section
variable{p:PId}{u:TUnit}{i:Int}{l:List PId}
theorem OR(hn:i=Int.ofNat (aF p u).length -2)(h0:ao i 0=false):[ah (gD (aF p u) i.toNat)]=o4 p u (i-1+1).toNat:=by
 have h0:=af h0;simp only[aP]at hn;have e:(i-1+1).toNat=i.toNat:=by omega
 rw[e,Bb p u (k:=i.toNat) (by omega),show i.toNat+1=(aF p u).length -1 by omega,Dt,qW]
theorem Ic(h:l=o4 p u (i+1).toNat)(hi:i+2≤(aF p u).length)(h0:ao i 0=false):l++[ah (gD (aF p u) i.toNat)]=o4 p u (i-1+1).toNat:=by
 have h0:=af h0;grind[Bb]
theorem Tw(h:l=o4 p u (i+1).toNat)(hi: -1≤i)(h0:ao i 0=true):l=qc p u:=by
 have h0:=ae h0;rw[h,show(i+1).toNat=0 by omega,FU]
theorem Tk(hn:i=Int.ofNat (aF p u).length -2)(h0:ao i 0=true):qc p u=[]:=by
 have h0:=ae h0;simp only[aP]at hn;rw[←FU];have:(aF p u).length -1=0:=by omega
 grind[Dt]
end
theorem Ld{s:PStep}{l m:List TUnit}(h:de s l=m)(hm:m≠[]):l≠[]:=by grind[ny]
theorem Xw(l:List TUnit){z:AV}(hz:z.top=0):aq (l.map aY++[z])=0:=kU.2 fun x hx=>by grind[ic]
theorem pj{l x r:List TUnit}{w:TUnit}{j:Nat}(h1:l.drop j=x)(h2:x=w::r):nU w+ef r≤ef l:=by
 have e:l=l.take j++(w::r):=by grind[List.take_append_drop]
 grind[tZ,bi]
end Go.Ev
