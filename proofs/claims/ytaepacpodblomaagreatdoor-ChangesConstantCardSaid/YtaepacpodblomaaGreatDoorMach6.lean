/- An abstract machine for runs of the program, proved sound against the model: part 6. No conditions. -/
import Derived.Test.YtaepacpodblomaaGreatDoorMach5
import Derived.Shelf.SortM.Plain
import Derived.Shelf.SortM.SortNone
import Derived.Shelf.SlSortCmp.NoneTotal
import Derived.Shelf.SlicesG.CompactI
import Derived.Lib.QuietBelow
import GoSem.ClaimJoined
import Derived.Calls
import Derived.RunT
import Derived.Below
import Derived.Shelf.Strings.FuncGrows
import Derived.Laws.RangeAny
import Derived.Lib.Join
import Derived.Lib.Repeat
import Derived.Lib.SlTrimSet
namespace Go.Ev
open Go Go.Sort Go.Proofs
section
variable{P:Program}{G:eE}{pl:Pl}{M:dt}{h:AHeap}{w w':World}
theorem tX(hr:cF pl M h w){id:Nat}{p:Place}{sz:Nat}{op:Bool}{ep:Nat}{xs xs':List AV}{c c':Array Value}{t:TypeId}(hp:pl id=some p)(hg:h.get id=some (.row sz op ep xs))
  (hb:w.heap[p.blk]?=some (.cells c t (0,0)))(hw:w'.heap[p.blk]?=some (.cells c' t (0,0)))(hcs:c'.size=c.size)(hlen:xs'.length=xs.length)(hel:∀x,x∈xs'→x.cells.length=sz∧Sc x)
  (hcell:∀i x j y,xs'[i]?=some x→x.cells[j]?=some y→VRel pl M y (c'.getD (i*sz+j) undef))(hs:WSame w w')(hsz:w.heap.size≤w'.heap.size)(hk:∀b,b<w.heap.size→b≠p.blk→w'.heap[b]?=w.heap[b]?):
  cF pl M (h.put id (.row sz op ep xs')) w'∧cT h pl M w (h.put id (.row sz op ep xs')) pl M w':=by
 have ho:=hr.obj id p _ hp hg;rw[hb]at ho;simp only[bu]at ho;obtain⟨h1,h2,h3,h4,h5,h6,h7,h8⟩:=ho;have e:=yo (pl:=pl) hp;have:=cF.change (p':=p) (o':=.row sz op ep xs') hr hp hg (.inl rfl) hs hsz hk (.inl rfl) (wq.1 hw).1 (by
  rw[e,hw];simp only[bu];refine⟨h1,h2,by omega,by omega,trivial,h6,fun e=>by simp_all,⟨?_,hel,fun i x j y q1 q2=>?_⟩⟩
  ·grind[cases InMem]
  simp_all)
 simp_all
variable{β:Type}[Inhabited β]
theorem qn{enc:β→Value}{blk off n:Nat}{d:Array β}{os:Array Obj}{c:Array Value}{t:TypeId}{fr:Nat×Nat}(hb:w.heap[blk]?=some (.cells c t fr)):
  (grow (putRow enc (Sort.ahead w n) blk off d) os).heap[blk]?=some (.cells (putCells enc off d c) t fr):=by
 grind[grow,putRow,mapBlock,Sort.ahead,onCells]
theorem kU{enc:β→Value}{blk off n:Nat}{d:Array β}{os:Array Obj}{b:Nat}(hb:b<w.heap.size)(hne:b≠blk):
  (grow (putRow enc (Sort.ahead w n) blk off d) os).heap[b]?=w.heap[b]?:=by
 simp only[grow,putRow,mapBlock,Sort.ahead];grind
theorem nH{enc:β→Value}{blk off n:Nat}{d:Array β}{os:Array Obj}:WSame w (grow (putRow enc (Sort.ahead w n) blk off d) os):=⟨rfl,rfl,rfl,Nat.le_add_right _ _⟩
theorem Bo{enc:β→Value}{blk off n:Nat}{d:Array β}{os:Array Obj}:w.heap.size≤(grow (putRow enc (Sort.ahead w n) blk off d) os).heap.size:=by simp_all
theorem nE{enc:β→Value}{d:Array β}{c:Array Value}{k:Nat}(hk:k<d.size)(hc:k<c.size):(putCells enc 0 d c).getD k undef=enc d[k]!:=by simp_all[putCells]
theorem qW(hr:cF pl M h w){id ep len sz:Nat}{op:Bool}{cap:Option Nat}{xs:List AV}{x:Value}(hv:VRel pl M (.slice id ep 0 len cap) x)(hg:h.get id=some (.row sz op ep xs))(hl:0<len):
  ∃p c t cap',pl id=some p∧w.heap[p.blk]?=some (.cells c t (0,0))∧x=.slice (some ⟨p.blk,0,none⟩) len cap'∧InMem pl M c 0 sz xs∧0<sz∧p.blk<w.heap.size:=by
 cases hv with
 | slice hp he hle hk ha=>
  rename_i cap' a p;have ho:=hr.obj id p _ hp hg;cases hb:w.heap[p.blk]? with
  |none=>grind[bu]
  |some ob=>
   rw[hb]at ho;cases ob<;>simp only[bu]at ho
   rename_i c t fr;obtain⟨h1,h2,h3,h4,h5,h6,h7,h8⟩:=ho;subst h5;obtain⟨k1,_⟩:=ha (by omega);have k2:a=⟨p.blk,0,none⟩:=by grind
   exact⟨p,c,t,_,hp,hb,by rw[k2],h8,h6,(wq.1 hb).1⟩
def be(zs:List Int):List Int:=zs.mergeSort fun x y=>decide (x≤y)
theorem jl(zs:List Int):(be zs).Perm zs:=List.mergeSort_perm ..
theorem oG(zs:List Int):(be zs).Pairwise (fun a b=>a≤b):=by
 have:=List.pairwise_mergeSort (le:=fun x y:Int=>decide (x≤y)) (by grind) (by grind) zs;exact this.imp (by simp)
theorem CE{c:Array Value}{sz:Nat}{xs:List AV}(hm:InMem pl M c 0 sz xs){i:Nat}{x:AV}(hx:xs[i]?=some x){j:Nat}(hj:j<sz):i*sz+j<c.size∧∃y,x.cells[j]?=some y∧VRel pl M y (c.getD (i*sz+j) undef):=by
 have h1:=hm.fit;have hi:=(gk.1 hx).1;have h2:=(hm.elem x (bi hx)).1;have h3:(i+1)*sz≤xs.length*sz:=eC _ hi;rw[jB]at h3;refine⟨by omega,x.cells[j],by simp_all,?_⟩;have:=hm.cell i x j _ hx (lD (by omega:j<x.cells.length));simp_all
theorem r8{f:FuncId}(hE:∀vs w,(callFunc f vs).run P w=.ok (.enter f vs) w)
  (hC:∀(blk off cap:Nat)(zs:List Int)(w:World),Holds (Value.int .i64) w blk off zs.toArray→blk<w.heap.size→zs.length<4611686018427387904→
   Calls P f #[.slice (some ⟨blk,off,none⟩) zs.length cap] w fun e w'=>e=.returned (.tuple #[])∧∃n os,w'=grow (putRow (Value.int .i64) (Sort.ahead w n) blk off (zs.mergeSort fun x y=>decide (x≤y)).toArray) os)
  {id ep:Nat}{op:Bool}{cap:Option Nat}(zs:List Int)(hg:h.get id=some (.row 1 op ep (zs.map aw)))(hz:0<zs.length)(hb:zs.length<4611686018427387904):
  aL P G f [.slice id ep 0 zs.length cap] h (fun v h'=>v=.tuple []∧h'=h.put id (.row 1 op ep ((be zs).map aw))):=by
 intro pl M w vs hG hr hv;obtain⟨a,rfl,hv1⟩:=SJ hv;obtain⟨p,c,t,cap',hp,hbl,rfl,hm,_,hlt⟩:=qW hr hv1 hg hz;have hcell:∀j z,zs[j]?=some z→j<c.size∧c.getD j undef=.int .i64 z:=by
  intro j z hj;have hx:(zs.map aw)[j]?=some (aw z):=by simp_all
  obtain⟨q1,y,q2,q3⟩:=CE hm hx (j:=0) (by omega);rw[Nat.mul_one,pi]at q1 q3;simp[aw,AV.cells]at q2;subst q2;refine⟨q1,?_⟩;cases hq:c.getD j undef<;>rw[hq]at q3<;>cases q3
  rfl
 refine .inl ⟨hE _ _,Calls.mono (hC p.blk 0 cap' zs w (fun j hj=>?_) hlt hb) fun e w' ⟨he,n,os,hw⟩=>?_⟩
 ·have hj':j<zs.length:=by omega
  obtain⟨q1,q2⟩:=hcell j zs[j] (lD hj');rw[fw];refine⟨?_,?_⟩
  ·simp only[World.cell?,hbl];simp only[Option.isSome_none,gz,if_false];rw[E5 q1];simp_all
  grind[World.frozen?]
 ·refine⟨.tuple #[],.tuple [],_,he,⟨rfl,rfl⟩,pl,M,rZ,?_⟩;have hlen:(be zs).length=zs.length:=(jl zs).length_eq;have hw1:w'.heap[p.blk]?=some (.cells (putCells (Value.int .i64) 0 (be zs).toArray c) t (0,0)):=by rw[hw];exact qn hbl
  obtain⟨r1,r2⟩:=tX (w':=w') (xs':=(be zs).map aw) hr hp hg hbl hw1 (by simp[putCells]) (by simp_all) (fun x hx=>by
    obtain⟨z,_,rfl⟩:=ke.1 hx;exact⟨rfl,fun y hy=>by simp[aw,AV.cells]at hy;subst hy;rfl⟩) (fun i x j y q1 q2=>by
    rw[pR]at q1;obtain⟨z,e1,rfl⟩:=E4.1 q1;have hi:=(gk.1 e1).1;cases j with
    |succ j=>grind[aw,AV.cells]
    |zero=>
     simp[aw,AV.cells]at q2;subst q2;rw[Nat.mul_one,pi,nE (by omega) (hcell i zs[i] (lD (by omega))).1];have:(be zs).toArray[i]! =z:=by simp_all
     rw[this];exact .int _ _) (by grind[nH]) (by simp_all) (fun b hb hne=>by grind[kU])
  exact⟨r1,r2,au _⟩
def an(zs:List Int):List Int:=Lib.compact zs
theorem xy(zs:List Int):(an zs).length≤zs.length:=by grind[an,Lib.compact,Lib.compactUpTo]
theorem ov{f:FuncId}(hE:∀vs w,(callFunc f vs).run P w=.ok (.enter f vs) w)
  (hC:∀(blk off cap:Nat)(zs:List Int)(w:World),Holds (Value.int .i64) w blk off zs.toArray→zs.length≤9223372036854775807→zs.length≤cap→
   Calls P f #[.slice (some ⟨blk,off,none⟩) zs.length cap] w fun e w'=>e=.returned (.slice (some ⟨blk,off,none⟩) (Lib.compact zs).length cap)∧∃q,w'=putRow (Value.int .i64) (Sort.ahead w q) blk off (Lib.compact zs++List.replicate (zs.length-(Lib.compact zs).length) 0).toArray)
  {id ep:Nat}{op:Bool}(zs:List Int)(hg:h.get id=some (.row 1 op ep (zs.map aw)))(hz:0<zs.length)(hb:zs.length<4611686018427387904):
  aL P G f [.slice id ep 0 zs.length none] h (fun v h'=>v=.slice id ep 0 (an zs).length none∧h'=h.put id (.row 1 op ep ((an zs++List.replicate (zs.length-(an zs).length) 0).map aw))):=by
 intro pl M w vs hG hr hv;obtain⟨a,rfl,hv1⟩:=SJ hv;obtain⟨p,c,t,cap',hp,hbl,rfl,hm,_,hlt⟩:=qW hr hv1 hg hz;have hcell:∀j z,zs[j]?=some z→j<c.size∧c.getD j undef=.int .i64 z:=by
  intro j z hj;have hx:(zs.map aw)[j]?=some (aw z):=by simp_all
  obtain⟨q1,y,q2,q3⟩:=CE hm hx (j:=0) (by omega);rw[Nat.mul_one,pi]at q1 q3;simp[aw,AV.cells]at q2;subst q2;refine⟨q1,?_⟩;cases hq:c.getD j undef<;>rw[hq]at q3<;>cases q3
  rfl
 have hle:=xy zs;have hcap:zs.length≤cap':=by grind[cases VRel]
 generalize hnew:an zs++List.replicate (zs.length-(an zs).length) 0=ns;have hnl:ns.length=zs.length:=by grind
 refine .inl ⟨hE _ _,Calls.mono (hC p.blk 0 cap' zs w (fun j hj=>?_) (by omega) hcap) fun e w' ⟨he,n,hw⟩=>?_⟩
 ·have hj':j<zs.length:=by omega
  obtain⟨q1,q2⟩:=hcell j zs[j] (lD hj');rw[fw];refine⟨?_,?_⟩
  ·simp only[World.cell?,hbl];simp only[Option.isSome_none,gz,if_false];rw[E5 q1];simp_all
  grind[World.frozen?]
 ·have hw2:w'=grow (putRow (Value.int .i64) (Sort.ahead w n) p.blk 0 ns.toArray) #[]:=by rw[hw,grow_empty];congr 2
  have hrel:VRel pl M (.slice id ep 0 (an zs).length none) (.slice (some ⟨p.blk,0,none⟩) (an zs).length cap'):=by
   cases hv1 with
   |slice hp he hl hk ha=>
    refine .slice hp he (by omega) hk fun e=>?_
    grind
  refine⟨_,_,_,he,⟨rfl,rfl⟩,pl,M,hrel,?_⟩;have hw1:w'.heap[p.blk]?=some (.cells (putCells (Value.int .i64) 0 ns.toArray c) t (0,0)):=by grind[qn]
  obtain⟨r1,r2⟩:=tX (w':=w') (xs':=ns.map aw) hr hp hg hbl hw1 (by simp[putCells]) (by simp_all) (fun x hx=>by
    obtain⟨z,_,rfl⟩:=ke.1 hx;exact⟨rfl,fun y hy=>by simp[aw,AV.cells]at hy;subst hy;rfl⟩) (fun i x j y q1 q2=>by
    rw[pR]at q1;obtain⟨z,e1,rfl⟩:=E4.1 q1;have hi:=(gk.1 e1).1;cases j with
    |succ j=>grind[aw,AV.cells]
    |zero=>
     simp[aw,AV.cells]at q2;subst q2;rw[Nat.mul_one,pi,nE (by omega) (hcell i zs[i] (lD (by omega))).1];have:ns.toArray[i]! =z:=by simp_all
     rw[this];exact .int _ _) (by grind[nH]) (by simp_all) (fun b hb hne=>by grind[kU])
  exact⟨r1,r2,au _⟩
theorem De{f:FuncId}(hE:∀vs w,(callFunc f vs).run P w=.ok (.enter f vs) w)
  (hC:∀(p:Option Addr)(cap:Nat)(w:World),Calls P f #[.slice p 0 cap] w fun e w'=>e=.returned (.tuple #[])∧w'=w):bW P G f [.nils] (.tuple []):=by
 intro h pl M w vs hG hr hv;obtain⟨a,rfl,hv1⟩:=SJ hv;cases hv1
 exact .inl ⟨hE _ _,Calls.mono (hC none 0 w) fun e w' ⟨he,hw⟩=>⟨.tuple #[],.tuple [],h,he,⟨rfl,rfl⟩,pl,M,rZ,by simp_all[StepF.refl]⟩⟩
theorem vj{f:FuncId}{g:Fn}(hE:∀vs w,(callFunc f vs).run P w=.ok (.enter f vs) w)
  (hC:∀(p:Option Addr)(cap:Nat)(fv:Value)(w:World),Calls P f #[.slice p 0 cap,fv] w fun e w'=>e=.returned (.tuple #[])∧w'=w):bW P G f [.nils,.func g [] []] (.tuple []):=by
 intro h pl M w vs hG hr hv;obtain⟨a,b,rfl,hv1,hv2⟩:=A8 hv;cases hv1
 exact .inl ⟨hE _ _,Calls.mono (hC none 0 b w) fun e w' ⟨he,hw⟩=>⟨.tuple #[],.tuple [],h,he,⟨rfl,rfl⟩,pl,M,rZ,by simp_all[StepF.refl]⟩⟩
def DM{α:Type}(cmp:α→α→Int)(a b:α):Bool:=decide (cmp a b<0)
theorem Be{f g:FuncId}{sz:Nat}(hGT:i7 G)(hE:∀vs w,(callFunc f vs).run P w=.ok (.enter f vs) w)(hg2:∀args w,(callFunc g args).run P w=.ok (.enter g args) w)
  (hC:∀(m:Nat)(enc:Fin (m+1)→List Value)(cf:Fin (m+1)→Fin (m+1)→Int)(blk off cap:Nat)(d:Array (Fin (m+1)))(w:World),(∀x,(enc x).length=sz)→(∀x,∀v∈enc x,v.oneCell'=true)→SWO (ltOf cf)→
   CmpLays P g #[] enc sz cf blk off d.size w→HoldsK enc sz w blk off d→blk<w.heap.size→d.size<4611686018427387904→
   Calls P f #[.slice (some ⟨blk,off,none⟩) d.size cap,.func (.func g) #[] #[]] w fun e w'=>e=.returned (.tuple #[])∧∃d' n os,PermIn 0 d.size d d'∧SortedIn (ltOf cf) 0 d.size d'∧w'=sortWorldK enc sz w blk off n d' os)
  {α:Type}[Inhabited α](enc:α→AV)(cmp:α→α→Int)(hO:SWO (DM cmp))(hag:∀a,∃cs,enc a=.agg cs)(htop:∀a,(enc a).top=0)
  (l:List α)(hcmp:∀a,a∈l→∀b,b∈l→bW P G g [enc a,enc b] (.int .i64 (cmp a b)))
  {oid ep:Nat}{op:Bool}{cap:Option Nat}(hg:h.get oid=some (.row sz op ep (l.map enc)))(hz:0<l.length)(hb:l.length<4611686018427387904):
  aL P G f [.slice oid ep 0 l.length cap,.func (.func g) [] []] h (fun v h'=>∃l':List α,(l'.Perm l∧l'.Pairwise fun a b=>DM cmp b a=false)∧v=.tuple []∧h'=h.put oid (.row sz op ep (l'.map enc))):=by
 intro pl M w vs hG hr hv;obtain⟨a,fv,rfl,hv1,hv2⟩:=A8 hv;have e2:=zW hv2;subst e2;obtain⟨p,c,t,cap',hp,hbl,rfl,hm,hsz0,hlt⟩:=qW hr hv1 hg hz;obtain⟨m,hm1⟩:∃m,l.length=m+1:=⟨l.length-1,by omega⟩
 have hfit:=hm.fit;rw[cJ,fw,hm1]at hfit;have helem:∀i:Fin (m+1),(l.map enc)[i.1]?=some (enc l[i.1]!):=fun i=>by
  have:=i.2;rw[pR,lD (by omega),getElem!_pos l i.1 (by omega)];rfl
 have hmul:∀i:Fin (m+1),i.1*sz+sz≤(m+1)*sz:=fun i=>by have:=eC sz (Nat.succ_le_of_lt i.2);rwa[pS]at this
 generalize hcof:(fun i:Fin (m+1)=>(List.range sz).map fun j=>c.getD (i.1*sz+j) undef)=cellsOf;have cl:∀i,(cellsOf i).length=sz:=fun i=>by rw[←hcof];simp
 have cg:∀i j,j<sz→(cellsOf i)[j]?=some (c.getD (i.1*sz+j) undef):=fun i j hj=>by rw[←hcof];simp[hj]
 generalize hd:(Array.ofFn (n:=m+1) id)=d;have hds:d.size=m+1:=by rw[←hd];simp
 have hdg:∀j (hj:j<m+1),d[j]! =⟨j,hj⟩:=fun j hj=>by rw[getElem!_pos d j (by omega)];subst hd;simp
 have hflat:∀(dk:Array (Fin (m+1))),dk.size=m+1→∀i j,i<m+1→j<sz→(flatK cellsOf sz dk)[i*sz+j]! =c.getD ((dk[i]!).1*sz+j) undef:=fun dk hdk i j hi hj=>by
  have h1:i*sz+j<dk.size*sz:=by have:=eC sz (Nat.succ_le_of_lt hi);rw[pS]at this;rw[hdk];omega
  rw[get_flatK cellsOf sz dk _ h1];have h2:(i*sz+j)/sz=i:=by rw[Nat.mul_comm,Nat.mul_add_div hsz0,Nat.div_eq_of_lt hj,pi]
  have h3:(i*sz+j)%sz=j:=by rw[Nat.mul_comm,Nat.mul_add_mod,Nat.mod_eq_of_lt hj]
  rw[h2,h3,getElem!_pos _ j (by rw[cl];exact hj)];have:=cg (dk[i]!) j hj;rw[lD (by rw[cl];exact hj)]at this;simpa using this
 have hH:HoldsK cellsOf sz w p.blk 0 d:=by
  intro k hk;rw[size_flatK,hds]at hk;have hi:k/sz<m+1:=Nat.div_lt_of_lt_mul (by rw[Nat.mul_comm];exact hk);have hj:k%sz<sz:=Nat.mod_lt _ hsz0;have hk2:k/sz*sz+k%sz=k:=by rw[Nat.mul_comm];exact Nat.div_add_mod k sz
  have:=hflat d hds (k/sz) (k%sz) hi hj;rw[hdg _ hi,hk2]at this;rw[this,fw];have hkc:k<c.size:=by omega
  refine⟨?_,by simp[World.frozen?,hbl]⟩;simp only[World.cell?,hbl];simp only[Option.isSome_none,gz,if_false];rw[E5 hkc];simp[Array.getD,hkc]
 have hrelE:∀(i:Fin (m+1)) cs,enc l[i.1]! =.agg cs→cs.length=sz∧(∀y,y∈cs→cH y=true)∧∀(j:Nat)(y:AV),cs[j]?=some y→VRel pl M y (c.getD (i.1*sz+j) undef):=by
  intro i cs hcs;have h1:=hm.elem _ (bi (helem i));rw[hcs]at h1;refine⟨h1.1,h1.2,fun j y hj=>?_⟩;have:=hm.cell i.1 _ j y (helem i) (by rw[hcs];exact hj);rwa[fw]at this
 have hone:∀i,∀v∈cellsOf i,v.oneCell'=true:=by
  intro i v hvm;obtain⟨j,hj,e⟩:=E3 hvm;rw[cl]at hj;have h1:=cg i j hj;rw[lD (by rw[cl];exact hj),e]at h1;obtain⟨cs,hcs⟩:=hag l[i.1]!;obtain⟨k1,k2,k3⟩:=hrelE i cs hcs;have:=k3 j cs[j] (lD (by omega));cases h1
  exact this.one (k2 _ (Dk _))
 have hmemL:∀i:Fin (m+1),l[i.1]!∈l:=fun i=>by
  have:=i.2;rw[getElem!_pos l i.1 (by omega)];exact Dk _
 have hlays:CmpLays P g #[] cellsOf sz (fun i j=>cmp l[i.1]! l[j.1]!) p.blk 0 d.size w:=by
  intro n os dk hdk x y;generalize hW:sortWorldK cellsOf sz w p.blk 0 n dk os=W;have hWo:∀b,b<w.heap.size→b≠p.blk→W.heap[b]?=w.heap[b]?:=fun b h1 h2=>by rw[←hW];exact kU h1 h2
  have hrW:cF (fun _=>none) M AHeap.none W:=qz (pl:=fun _=>none) (n:=0) (g:=AHeap.none.get) ⟨fun _ _ h=>by simp at h,fun _ _ _ h=>by simp at h,fun _ _ h=>by simp at h,fun _ _ _ _ h=>by simp at h,fun b c' hM=>by
   obtain⟨t',fr,q⟩:=hr.imm b c' hM;refine⟨t',fr,?_⟩;rw[hWo b (hr.memLt hM) (fun e=>by have:=hr.sep oid p hp;rw[←e,hM]at this;cases this)];exact q,fun _ _ h=>by simp at h⟩
  have hrel:∀i:Fin (m+1),VRel (fun _=>none) M (enc l[i.1]!) (.agg (cellsOf i).toArray):=by
   intro i;obtain⟨cs,hcs⟩:=hag l[i.1]!;obtain⟨k1,k2,k3⟩:=hrelE i cs hcs;have ht:=htop l[i.1]!;rw[hcs]at ht ⊢;refine .agg (by simp[cl,k1]) k2 fun j y hj=>?_
   have hj':j<sz:=by rw[←k1];exact(gk.1 hj).1
   have e:(cellsOf i).toArray.getD j undef=c.getD (i.1*sz+j) undef:=by
    have:=cg i j hj';rw[gp,nS,this];rfl
   rw[e];exact(k3 j y hj).none (jT.1 ht y (bi hj))
  have hc:=hcmp _ (hmemL x) _ (hmemL y) AHeap.none (fun _=>none) M W #[.agg (cellsOf x).toArray,.agg (cellsOf y).toArray] (hG.none hGT) hrW ⟨rfl,fun j z hj=>by
   match j,hj with
   |0,hj=>cases hj;exact hrel x
   |1,hj=>cases hj;exact hrel y⟩
  rcases hc with⟨h1,h2⟩|⟨cv,w',v,h',h1,h2,h3⟩
  ·refine Calls.mono h2 fun e w' ⟨cv,v,h',k1,k2,pl',M',k3,k4,k5,k6⟩=>?_
   obtain⟨k2,_⟩:=k2;subst k2;cases k3
   refine⟨k1,?_⟩;obtain⟨q,hq⟩:=regrown_of_below (w:=W) (w':=w') ⟨k5.os,k5.tape,k5.out,k5.size,fun b hb=>k5.kept b hb fun id p h=>by simp at h⟩;refine⟨w'.drawn-W.drawn,q.os,?_⟩;have hd1:w'.drawn=q.d:=by rw[hq];rfl
   have hd2:=k5.drawn;have:redrawn W q.d=W.drewN (w'.drawn-W.drawn):=by
    show({W with drawn:=q.d}:World)={W with drawn:=W.drawn+(w'.drawn-W.drawn)}
    congr 1;omega
   rw[←this];exact hq
  ·rw[hg2]at h1;cases h1
 refine .inl ⟨hE _ _,?_⟩;have hcall:=hC m cellsOf (fun i j=>cmp l[i.1]! l[j.1]!) p.blk 0 cap' d w cl hone ⟨fun x=>hO.irrefl _,fun x y z=>hO.trans _ _ _,fun x y z=>hO.ntrans _ _ _⟩ hlays hH hlt (by omega);rw[show d.size=l.length by omega]at hcall;refine Calls.mono hcall fun e w' ⟨he,d',n,os,hP,hS,hw⟩=>?_
 obtain⟨hp1,_,hp3⟩:=hP;have hd's:d'.size=m+1:=by omega
 have hperm:d'.toList.Perm d.toList:=by
  have e1:d'.extract 0 l.length=d':=by rw[show l.length=d'.size by omega];exact Array.extract_size
  have e2:d.extract 0 l.length=d:=by rw[show l.length=d.size by omega];exact Array.extract_size
  rwa[e1,e2]at hp3
 have hdl:d.toList.map (fun i=>l[i.1]!)=l:=by
  apply List.ext_getElem?;intro i;by_cases hi:i<l.length
  ·rw[pR,Array.getElem?_toList,E5 (by omega),lD hi];have:=hdg i (by omega);rw[getElem!_pos d i (by omega)]at this;rw[this];show some (l[i]!)=some l[i]
   rw[getElem!_pos l i hi]
  ·rw[List.getElem?_eq_none (by simp;omega),List.getElem?_eq_none (by omega)]
 have hl':(d'.toList.map (fun i=>l[i.1]!)).length=l.length:=by simp;omega
 refine⟨.tuple #[],.tuple [],_,he,⟨d'.toList.map (fun i=>l[i.1]!),⟨?_,?_⟩,rfl,rfl⟩,pl,M,rZ,?_⟩
 ·have:=hperm.map (fun i=>l[i.1]!);rwa[hdl]at this
 ·rw[JO];intro i j hi hj hij;have hi':i<d'.size:=by simpa using hi
  have hj':j<d'.size:=by simpa using hj
  have:=hS i j (bH _) hij (by omega);rw[getElem!_pos d' i hi',getElem!_pos d' j hj']at this;simpa[DM,ltOf]using this
 ·have hw1:w'.heap[p.blk]?=some (.cells (putCells id 0 (flatK cellsOf sz d') c) t (0,0)):=by rw[hw];exact qn hbl
  obtain⟨r1,r2⟩:=tX (w':=w') (xs':=(d'.toList.map (fun i=>l[i.1]!)).map enc) hr hp hg hbl hw1 (by simp[putCells]) (by simp;omega) (fun x hx=>by
    obtain⟨z,h1,rfl⟩:=ke.1 hx;obtain⟨i,_,rfl⟩:=ke.1 h1;exact hm.elem _ (bi (helem i))) (fun i x j y q1 q2=>by
    rw[pR,pR,Array.getElem?_toList]at q1;obtain⟨z,e1,rfl⟩:=E4.1 q1;obtain⟨k,e2,rfl⟩:=E4.1 e1;have hi:i<d'.size:=(wq.1 e2).1;obtain⟨cs,hcs⟩:=hag l[k.1]!;obtain⟨k1,k2,k3⟩:=hrelE k cs hcs;rw[hcs]at q2;have hj:j<sz:=by rw[←k1];exact(gk.1 q2).1
    have hb1:i*sz+j<(m+1)*sz:=by have:=eC sz (Nat.succ_le_of_lt (show i<m+1 by omega));rw[pS]at this;omega
    rw[nE (by rw[size_flatK,hd's];exact hb1) (by omega)];have:=hflat d' hd's i j (by omega) hj;have e3:d'[i]! =k:=by rw[getElem!_pos d' i hi];rw[E5 hi]at e2;simpa using e2
    rw[e3]at this;show VRel pl M y (flatK cellsOf sz d')[i*sz+j]!
    rw[this];exact k3 j y q2) (by rw[hw];exact nH) (by rw[hw];exact Bo) (fun b hb hne=>by rw[hw];exact kU hb hne)
  exact⟨r1,r2,au _⟩
end
end Go.Ev
namespace Go.Ev
open Go
theorem yj(a b:Int):ao (ja a b) 0=ao a b:=by
 unfold ja;cases h:ao a b with
 |true=>rfl
 |false=>cases h2:ao b a<;>rfl
noncomputable def lT(l:List PSpan)(d:Int):Nat:=(l.takeWhile fun s=>ao s.from_ d).length
theorem yx(l:List PSpan)(d:Int):lT l d≤l.length:=by
 induction l with
 |nil=>simp[lT]
 |cons a r ih=>grind[lT,List.takeWhile_cons]
def sU(l:List PSpan):Prop:=l.Pairwise fun a b=>a.from_≤b.from_
theorem uE{d:Int}:∀{l:List PSpan},sU l→∀k,k<l.length→(ao (gD l k).from_ d=true↔k<lT l d)
 |[],_,k,h=>by simp_all
 | a::r,hs,k,h=>by
  obtain⟨h1,h2⟩:=gT.1 hs;unfold lT;rw[List.takeWhile_cons];cases q:ao a.from_ d with
  | true=>
   simp only[if_true,cP];cases k with
   |zero=>grind[gD]
   |succ k=>
    have:=uE (d:=d) h2 k (by simp_all);rw[show gD (a::r) (k+1)=gD r k from rfl,this];grind[lT]
  |false=>
   simp only[gz,if_false,gn,nO,iff_false,Bool.not_eq_true];have hd:=aB q;grind[gV,iQ]
noncomputable def Ge(l:List PSpan)(d:Int):Bool:=ao (Int.ofNat (lT l d)) (Int.ofNat l.length)&&al (ja (gD l (lT l d)).from_ d) 0
theorem Og{l:List PSpan}(h:l.Pairwise fun a b=>a.to<b.from_)(h2:∀s,s∈l→s.from_<s.to):sU l:=by
 induction l with
 |nil=>exact .nil
 |cons a r ih=>
  obtain⟨h3,h4⟩:=gT.1 h;refine gT.2 ⟨fun b hb=>?_,ih h4 fun s hs=>h2 s (eJ _ hs)⟩;grind
structure NrmS(l:List PSpan):Prop where
 gap:l.Pairwise fun a b=>a.to<b.from_
 ok:∀s,s∈l→0≤s.from_∧s.from_<s.to∧s.to≤1048577
theorem NrmS.sort{l:List PSpan}(h:NrmS l):sU l:=Og h.gap fun s hs=>(h.ok s hs).2.1
theorem H6:∀{l:List PSpan}{b:Int},l.Pairwise (fun a b=>a.to<b.from_)→(∀s,s∈l→b≤s.from_∧s.from_<s.to∧s.to≤1048577)→b≤1048577→Int.ofNat l.length≤1048577-b
 |[],b,_,_,hb=>by simp_all
 |a::r,b,h,h2,hb=>by
  obtain⟨h3,h4⟩:=gT.1 h;have h5:=h2 a (eW ..);have:=H6 (l:=r) (b:=b+1) h4 (fun s hs=>by grind) (by omega);grind
theorem NrmS.len{l:List PSpan}(h:NrmS l):l.length≤1048577:=by
 have:=H6 (b:=0) h.gap h.ok (by omega);grind
noncomputable def gI(l:List PSpan)(d:Int):Bool:=Ge l d||(ao 0 (Int.ofNat (lT l d))&&ao d (gD l (lT l d-1)).to)
theorem QV{l:List PSpan}(h:NrmS l){d:Int}(hd:d<0∨1048576<d):gI l d=false:=by
 have hs:=h.sort;have hi:=uE (d:=d) hs;have hc:=yx l d;unfold gI Ge;rcases hd with hd|hd
 ·have h0:lT l d=0:=by
   rcases Nat.eq_zero_or_pos (lT l d)with e|e
   ·omega
   ·have h1:=(hi 0 (by omega)).2 e;have:=am h1;grind[gV,cases NrmS]
  rw[h0];have e2:ao 0 (Int.ofNat 0)=false:=by rfl
  rw[e2,yd,Bool.or_false];cases hl:ao (Int.ofNat 0) (Int.ofNat l.length)with
  |false=>rfl
  | true=>
   have hlt:=am hl;simp only[aP]at hlt;have:=h.ok (gD l 0) (gV (by omega));have e3:al (ja (gD l 0).from_ d) 0=false:=by
    unfold ja;rw[iQ (by omega),jy (by omega)];rfl
   simp_all
 ·have h0:lT l d=l.length:=by
   rcases fZ (lT l d) l.length with e|e
   all_goals grind[gV,jy,cases NrmS]
  rw[h0,iQ (by omega),yd,Bool.false_or];cases hl:ao 0 (Int.ofNat l.length)with
  |false=>rfl
  |true=>
   have hlt:=am hl;simp only[aP]at hlt;have:=h.ok (gD l (l.length-1)) (gV (by omega));rw[iQ (by omega)];rfl
theorem DG(a b:Int):Cm a b=max a b:=by
 unfold Cm;cases h:ao a b with
 |true=>have:=am h;grind
 |false=>have:=aB h;grind
theorem I1(a b:Int):Na a b=min a b:=by
 unfold Na;cases h:ao b a with
 |true=>have:=am h;grind
 |false=>have:=aB h;grind
noncomputable abbrev VI(s:PSpan):PSpan:=⟨Cm s.from_ 0,Na s.to 1048577⟩
noncomputable abbrev XG(s:PSpan):Bool:=ao (Cm s.from_ 0) (Na s.to 1048577)
noncomputable def jc:List PSpan→List PSpan
 |[]=>[]
 |s::r=>match XG s with|true=>VI s::jc r|false=>jc r
theorem uG{s:PSpan}{r:List PSpan}(h:XG s=true):jc (s::r)=VI s::jc r:=by grind[jc]
theorem uH{s:PSpan}{r:List PSpan}(h:XG s=false):jc (s::r)=jc r:=by grind[jc]
theorem C9:∀(l:List PSpan),(jc l).length≤l.length
 |[]=>by simp[jc]
 |s::r=>by
  have:=C9 r;cases h:XG s with
  |true=>grind[uG]
  |false=>grind[uH]
theorem AB:∀{l:List PSpan}{s:PSpan},s∈jc l→0≤s.from_∧s.from_<s.to∧s.to≤1048577
 | a::r,s,hs=>by
  cases h:XG a with
  |true=>
   rw[uG h]at hs;rcases ez.1 hs with e|e
   ·subst e;have h2:=am h;grind[DG,I1]
   ·exact AB e
  |false=>rw[uH h]at hs;exact AB hs
def memB(l:List PSpan)(d:Int):Bool:=l.any fun s=>decide (s.from_≤d∧d<s.to)
def Oo(d:Int):Bool:=decide (0≤d∧d<1048577)
theorem mI(d:Int):memB [] d=false:=rfl
theorem eA(a:PSpan)(l:List PSpan)(d:Int):memB (a::l) d=(decide (a.from_≤d∧d<a.to)||memB l d):=rfl
theorem zl(l r:List PSpan)(d:Int):memB (l++r) d=(memB l d||memB r d):=by simp[memB]
theorem hJ{l:List PSpan}{d:Int}:memB l d=true↔∃s,s∈l∧s.from_≤d∧d<s.to:=by simp[memB]
theorem Nd{l r:List PSpan}(h:l.Perm r)(d:Int):memB l d=memB r d:=by
 rw[Bq,hJ,hJ];grind
theorem C8:∀(l:List PSpan)(d:Int),memB (jc l) d=(Oo d&&memB l d)
 |[],d=>by simp[jc,memB]
 | a::r,d=>by
  have ih:=C8 r d;have e:∀b:Bool,(b=decide (0≤d∧d<1048577∧a.from_≤d∧d<a.to))→(b||(Oo d&&memB r d))=(Oo d&&memB (a::r) d):=fun b hb=>by grind[eA,Oo]
  cases h:XG a with
  |true=>
   rw[uG h,eA,ih];refine e _ ?_;simp only[DG,I1];grind
  |false=>
   rw[uH h,ih];have h2:=aB h;simp only[DG,I1]at h2;grind
theorem NrmS.tail{a:PSpan}{r:List PSpan}(h:NrmS (a::r)):NrmS r:=⟨(gT.1 h.gap).2,fun s hs=>h.ok s (eJ _ hs)⟩
theorem NrmS.low{a x:PSpan}{r:List PSpan}(h:NrmS (a::r))(hx:x∈r):a.to<x.from_:=(gT.1 h.gap).1 x hx
theorem NrmS.head{a:PSpan}{r:List PSpan}(h:NrmS (a::r)):0≤a.from_∧a.from_<a.to∧a.to≤1048577:=h.ok a (eW ..)
theorem x8:NrmS []:=⟨.nil,fun s h=>by grind⟩
theorem rq{a:PSpan}{r:List PSpan}(h:NrmS (a::r)):memB (a::r) a.from_=true:=by grind[eA,cases NrmS]
theorem F7{a:PSpan}{r:List PSpan}(h:NrmS (a::r)){d:Int}(hd:memB (a::r) d=true):a.from_≤d:=by
 obtain⟨s,h1,h2,h3⟩:=hJ.1 hd;rcases ez.1 h1 with e|e
 ·simp_all
 ·have:=h.low e;grind[cases NrmS]
theorem P7{a:PSpan}{r:List PSpan}(h:NrmS (a::r)):memB (a::r) a.to=false:=by
 cases q:memB (a::r) a.to with
 |false=>rfl
 |true=>
  obtain⟨s,h1,h2,h3⟩:=hJ.1 q;rcases ez.1 h1 with e|e
  ·simp_all
  ·have:=h.low e;omega
theorem F6{a:PSpan}{r:List PSpan}(h:NrmS (a::r))(d:Int):memB r d=(decide (a.to≤d)&&memB (a::r) d):=by
 rw[eA];by_cases h1:a.to≤d
 ·grind
 ·have:memB r d=false:=by
   cases q:memB r d with
   |false=>rfl
   |true=>
    obtain⟨s,h2,h3,h4⟩:=hJ.1 q;have:=h.low h2;omega
  grind
theorem zb:∀{r s:List PSpan},NrmS r→NrmS s→(∀d,memB r d=memB s d)→r=s
 |[],[],_,_,_=>rfl
 |[],b::s,_,hs,h=>by grind[rq,mI]
 |a::r,[],hr,_,h=>by grind[rq,mI]
 | a::r,b::s,hr,hs,h=>by
  have h1:b.from_≤a.from_:=F7 hs (by grind[rq]);have h2:a.from_≤b.from_:=F7 hr (by grind[rq]);have ha:=hr.head;have hb:=hs.head;have h3:¬a.to<b.to:=fun q=>by grind[eA,P7]
  have h4:¬b.to<a.to:=fun q=>by grind[eA,P7]
  have e:a=b:=by
   obtain⟨a1,a2⟩:=a;obtain⟨b1,b2⟩:=b;grind
  subst e;rw[zb hr.tail hs.tail fun d=>by rw[F6 hr,F6 hs,h]]
def wW(f:Int→Bool)(d:Int)(l:List PSpan):List PSpan:=match f d with
 |false=>l
 |true=>match l with
  |[]=>[⟨d,d+1⟩]
  |s::r=>if s.from_=d+1 then⟨d,s.to⟩::r else⟨d,d+1⟩::s::r
def wo(f:Int→Bool):Nat→List PSpan
 |0=>[]
 |k+1=>wW f (1048577-Int.ofNat (k+1)) (wo f k)
theorem Ob{f:Int→Bool}{d:Int}{l:List PSpan}(h0:0≤d)(h1:d+1≤1048577)(hl:NrmS l)(hf:∀s,s∈l→d+1≤s.from_):
  NrmS (wW f d l)∧(∀s,s∈wW f d l→d≤s.from_)∧∀e,memB (wW f d l) e=((decide (e=d)&&f e)||memB l e):=by
 unfold wW;cases hfd:f d with
 |false=>grind
 | true=>
  match l,hl,hf with
  |[],_,_=>
   refine⟨⟨by simp,fun s hs=>by grind⟩,fun s hs=>by simp_all,fun e=>?_⟩;simp only[eA,mI,Bool.or_false];grind
  | s::r,hl,hf=>
   have hs:=hl.head;have hs2:=hf s (eW ..);simp only[];by_cases q:s.from_=d+1
   ·rw[if_pos q];refine⟨⟨gT.2 ⟨fun x hx=>hl.low hx,hl.tail.gap⟩,fun x hx=>?_⟩,fun x hx=>?_,fun e=>?_⟩
    ·grind[cases NrmS]
    ·grind
    ·simp only[eA];grind
   ·rw[if_neg q];refine⟨⟨gT.2 ⟨fun x hx=>?_,hl.gap⟩,fun x hx=>?_⟩,fun x hx=>?_,fun e=>?_⟩
    ·have:=hf x hx;rcases ez.1 hx with e|e
     ·grind
     ·have:=hl.low e;grind
    ·rcases ez.1 hx with e|e
     ·grind
     ·exact hl.ok x e
    ·grind
    ·rw[eA];grind
theorem FB(f:Int→Bool):∀k,k≤1048577→NrmS (wo f k)∧(∀s,s∈wo f k→1048577-Int.ofNat k≤s.from_)∧∀e,memB (wo f k) e=(decide (1048577-Int.ofNat k≤e∧e<1048577)&&f e)
 |0,_=>by
  refine⟨x8,fun s h=>(by cases h),fun e=>?_⟩;have:decide (1048577-Int.ofNat 0≤e∧e<1048577)=false:=by simp_all
  rw[this];rfl
 |k+1,hk=>by
  obtain⟨h1,h2,h3⟩:=FB f k (by omega);simp only[aP]at *;have:=Ob (f:=f) (d:=1048577-((k+1:Nat):Int)) (l:=wo f k) (by omega) (by omega) h1 (fun s hs=>by grind);have h5:wo f (k+1)=wW f (1048577-((k+1:Nat):Int)) (wo f k):=by grind[wo]
  grind
theorem P9(f:Int→Bool):∃l:List PSpan,NrmS l∧∀d,memB l d=(Oo d&&f d):=by
 obtain⟨h1,_,h3⟩:=FB f 1048577 (au _);exact⟨_,h1,fun d=>by simp_all[Oo]⟩
noncomputable def nf(f:Int→Bool):List PSpan:=Classical.choose (P9 f)
theorem zd(f:Int→Bool):NrmS (nf f):=(Classical.choose_spec (P9 f)).1
theorem IP(f:Int→Bool)(d:Int):memB (nf f) d=(Oo d&&f d):=(Classical.choose_spec (P9 f)).2 d
theorem QQ{f:Int→Bool}{r:List PSpan}(h:NrmS r)(hm:∀d,memB r d=(Oo d&&f d)):r=nf f:=zb h (zd f) fun d=>by grind[IP]
theorem QZ{f g:Int→Bool}(h:∀d,Oo d=true→f d=g d):nf f=nf g:=QQ (zd f) fun d=>by
 rw[IP];grind
theorem K6{l:List PSpan}(h:NrmS l):l=nf (memB l):=QQ h fun d=>by
 cases q:memB l d with
 |false=>simp_all
 |true=>
  obtain⟨s,h1,h2,h3⟩:=hJ.1 q;have:=h.ok s h1;have:Oo d=true:=by unfold Oo;grind
  simp_all
theorem Dy{α:Type}[Inhabited α]{l:List α}{n:Nat}(h:n<l.length):l.take (n+1)=l.take n++[gD l n]:=by grind[List.take_add_one,gD]
theorem Ej{α:Type}[Inhabited α]{l:List α}{n:Nat}(h:n<l.length):l.drop n=gD l n::l.drop (n+1):=by grind[List.drop_eq_getElem_cons,gD]
theorem tc{α:Type}{l:List α}{n m:Nat}{x:α}(h:n≤m):(l.set m x).take n=l.take n:=by
 apply List.ext_getElem?;grind
theorem Q2{α:Type}[Inhabited α]{l:List α}{i k:Nat}{x:α}(h:i<l.length):gD (l.set i x) k=if k=i then x else gD l k:=by
 unfold gD List.getD;grind
theorem sU.at{l:List PSpan}(h:sU l){i k:Nat}(hik:i≤k)(hk:k<l.length):(gD l i).from_≤(gD l k).from_:=by
 rcases fZ i k with q|q
 ·have:=JO.1 h i k (by omega) hk q;grind[gD]
 grind
structure MergeI(l cur:List PSpan)(n i:Nat):Prop where
 len:cur.length=l.length
 le:n≤i
 il:i≤l.length
 pos:0<i→0<n
 rest:∀k,i≤k→k<l.length→gD cur k=gD l k
 gap:∀j k,j<k→k<n→(gD cur j).to<(gD cur k).from_
 ok:∀k,k<n→0≤(gD cur k).from_∧(gD cur k).from_<(gD cur k).to∧(gD cur k).to≤1048577
 last:0<n→∀k,i≤k→k<l.length→(gD cur (n-1)).from_≤(gD l k).from_
 mem:∀d,(memB (cur.take n) d||memB (l.drop i) d)=memB l d
theorem MergeI.start(l:List PSpan):MergeI l l 0 0:=⟨rfl,au _,bH _,fun h=>absurd h (wz _),fun _ _ _=>rfl,fun _ _ _ h=>absurd h (nO _),fun _ h=>absurd h (nO _),fun h=>absurd h (wz _),fun d=>by simp[memB]⟩
theorem MergeI.copy{l cur:List PSpan}{n i:Nat}(h:MergeI l cur n i)(hi:i<l.length)(hs:sU l)(hok:∀k,k<l.length→0≤(gD l k).from_∧(gD l k).from_<(gD l k).to∧(gD l k).to≤1048577)
  (hn:n=0∨(gD cur (n-1)).to<(gD cur i).from_):MergeI l (cur.set n (gD cur i)) (n+1) (i+1):=by
 rw[h.rest i (au _) hi]at hn ⊢;have hl:=h.le;have hcl:=h.len;have hg:∀k,gD (cur.set n (gD l i)) k=if k=n then gD l i else gD cur k:=fun k=>Q2 (by omega)
 refine⟨by simp_all,by omega,by omega,fun _=>by omega,fun k h1 h2=>?_,fun j k h1 h2=>?_,fun k h1=>?_,fun _ k h1 h2=>?_,fun d=>?_⟩
 ·grind[cases MergeI]
 ·rw[hg,hg,if_neg (by omega)];by_cases e:k=n
  ·rw[if_pos e];rcases hn with hn|hn
   ·omega
   ·by_cases e2:j=n-1
    ·simp_all
    ·have h3:=h.gap j (n-1) (by omega) (by omega);grind[cases MergeI]
  ·grind[cases MergeI]
 ·rw[hg];by_cases e:k=n
  ·simp_all
  ·grind[cases MergeI]
 ·rw[hg,if_pos (by omega)];exact hs.at (by omega) h2
 ·rw[Dy (by grind),hg,if_pos rfl,tc (au _),zl,←h.mem d,Ej hi,eA,eA,mI];grind
theorem MergeI.join{l cur:List PSpan}{n i:Nat}(h:MergeI l cur n i)(hi:i<l.length)(hs:sU l)(hok:∀k,k<l.length→0≤(gD l k).from_∧(gD l k).from_<(gD l k).to∧(gD l k).to≤1048577)
  (hn:0<n)(hle:(gD cur i).from_≤(gD cur (n-1)).to)(x:Int)(hx:x=Cm (gD cur (n-1)).to (gD cur i).to):MergeI l (cur.set (n-1) ⟨(gD cur (n-1)).from_,x⟩) n (i+1):=by
 rw[h.rest i (au _) hi]at hle;rw[h.rest i (au _) hi,DG]at hx;have hl:=h.le;have hcl:=h.len;have hg:∀k,gD (cur.set (n-1) ⟨(gD cur (n-1)).from_,x⟩) k=if k=n-1 then⟨(gD cur (n-1)).from_,x⟩else gD cur k:=fun k=>Q2 (by omega)
 have h4:=h.ok (n-1) (by omega);have h5:=hok i hi;have h6:=h.last hn i (au _) hi;refine⟨by simp_all,by omega,by omega,fun _=>hn,fun k h1 h2=>?_,fun j k h1 h2=>?_,fun k h1=>?_,fun _ k h1 h2=>?_,fun d=>?_⟩
 ·grind[cases MergeI]
 ·rw[hg,hg,if_neg (by omega)];by_cases e:k=n-1
  ·grind[cases MergeI]
  ·grind[cases MergeI]
 ·rw[hg];by_cases e:k=n-1
  ·grind
  ·grind[cases MergeI]
 ·grind[cases MergeI]
 ·obtain⟨m,rfl⟩:∃m,n=m+1:=⟨n-1,by omega⟩
  simp only[Nat.add_sub_cancel]at *;rw[Dy (by grind),hg,if_pos rfl,tc (au _),zl,←h.mem d,Ej hi,eA (gD l i),Dy (by omega),zl,eA,eA,mI,Bool.or_false,Bool.or_false];grind
theorem MergeI.nrm{l cur:List PSpan}{n i:Nat}(h:MergeI l cur n i):NrmS (cur.take n):=by
 have hl:=h.le;have hcl:=h.len;have hil:=h.il;have hlen:(cur.take n).length=n:=by grind
 have hg:∀k (hk:k<(cur.take n).length),(cur.take n)[k]=gD cur k:=fun k hk=>by rw[List.getElem_take];unfold gD List.getD;grind
 refine⟨?_,fun s hs=>?_⟩;all_goals grind[List.pairwise_iff_getElem,List.getElem_of_mem,cases MergeI]
theorem MergeI.done{l cur:List PSpan}{n i:Nat}(h:MergeI l cur n i)(hi:l.length≤i)(d:Int):memB (cur.take n) d=memB l d:=by rw[←h.mem d,E2 hi,mI,Bool.or_false]
theorem RO{l l':List PSpan}(hp:l'.Perm (jc l)):∀k,k<l'.length→0≤(gD l' k).from_∧(gD l' k).from_<(gD l' k).to∧(gD l' k).to≤1048577:=fun k hk=>AB (hp.mem_iff.1 (gV hk))
noncomputable def g0(l:List PSpan):List PSpan:=nf (memB l)
theorem F9{l r:List PSpan}(h:NrmS r)(hm:∀d,memB r d=memB (jc l) d):r=g0 l:=QQ h fun d=>by grind[C8]
theorem Nw{l:List PSpan}(h:jc l=[]):[]=g0 l:=F9 x8 fun d=>by grind
end Go.Ev
namespace Go.Ev
open Go
theorem s7{zs:List Int}(hs:zs.Pairwise fun a b=>a≤b):(an zs).Pairwise (fun a b=>a<b)∧∀z,z∈an zs↔z∈zs:=by
 generalize hd:zs.toArray=d;have hsz:d.size=zs.length:=by grind
 have hx:∀j (hj:j<zs.length),d[j]! =zs[j]:=fun j hj=>by grind
 have mono:∀i j,i≤j→j<zs.length→d[i]!≤d[j]!:=fun i j hij hj=>by
  rcases fZ i j with q|q
  ·rw[hx i (by omega),hx j hj];exact JO.1 hs i j (by omega) hj q
  grind
 have key:∀m,m≤zs.length→(Lib.compactUpTo d m).Pairwise (fun a b=>a<b)∧(∀z,z∈Lib.compactUpTo d m→∃j,j<m∧z=d[j]!)∧∀j,j<m→d[j]!∈Lib.compactUpTo d m:=by
  intro m;induction m with
  |zero=>simp_all[Lib.compactUpTo]
  | succ m ih=>
   intro hm;obtain⟨h1,h2,h3⟩:=ih (by omega);rw[Lib.compactUpTo_succ];cases hk:Lib.keeps d m with
   | true=>
    simp only[if_true];have hk':m=0∨d[m]!≠d[m-1]!:=by grind[Lib.keeps]
    refine⟨List.pairwise_append.2 ⟨h1,by simp,fun a ha b hb=>?_⟩,fun z hz=>?_,fun j hj=>?_⟩
    ·obtain⟨j,hj,rfl⟩:=h2 a ha;have hb:b=d[m]!:=by simp_all
     subst hb;have e1:=mono j (m-1) (by omega) (by omega);have e2:=mono (m-1) m (by omega) (by omega);omega
    all_goals grind
   |false=>
    simp only[gz,if_false,ef];have hk':¬(m=0∨d[m]!≠d[m-1]!):=by grind[Lib.keeps]
    grind
 obtain⟨h1,h2,h3⟩:=key zs.length (au _);have e:an zs=Lib.compactUpTo d zs.length:=by grind[an,Lib.compact]
 rw[e];refine⟨h1,fun z=>⟨fun hz=>?_,fun hz=>?_⟩⟩
 ·grind
 ·obtain⟨j,hj,rfl⟩:=E3 hz;simp_all
theorem NrmS.at{l:List PSpan}(h:NrmS l){j k:Nat}(hjk:j<k)(hk:k<l.length):(gD l j).to<(gD l k).from_:=by
 have:=JO.1 h.gap j k (by omega) hk hjk;grind[gD]
theorem NrmS.okAt{l:List PSpan}(h:NrmS l){k:Nat}(hk:k<l.length):0≤(gD l k).from_∧(gD l k).from_<(gD l k).to∧(gD l k).to≤1048577:=h.ok _ (gV hk)
theorem TC{l:List PSpan}{d:Int}:memB l d=true↔∃k,k<l.length∧(gD l k).from_≤d∧d<(gD l k).to:=by
 rw[hJ];constructor
 ·rintro⟨s,h1,h2⟩
  obtain⟨k,hk,e⟩:=E3 h1;have:gD l k=s:=by grind[gD]
  grind
 grind[gV]
theorem C6 {a b:Int}:al (ja a b) 0=true↔a=b:=by
 unfold ja;cases h:ao a b with
 | true => have:=am h;constructor
           ·intro h;cases h
           omega
 |false=>
  have:=aB h;cases h2:ao b a with
  | true => have:=am h2;constructor
            ·intro h;cases h
            omega
  |false=>have:=aB h2;exact⟨fun _=>by omega,fun _=>rfl⟩
theorem DI{l:List PSpan}(h:NrmS l)(d:Int):gI l d=memB l d:=by
 have hi:=uE (d:=d) h.sort;have hc:=yx l d;rw[Bq,TC];unfold gI Ge;simp only[rL,bq];constructor
 ·rintro(⟨h1,h2⟩|⟨h1,h2⟩)
  ·have h1:=am h1;simp only[aP]at h1;have h2:=C6.1 h2;have:=h.okAt (k:=lT l d) (by omega);grind
  ·have h1:=am h1;have h2:=am h2;simp only[aP]at h1;have h3:=am ((hi (lT l d-1) (by omega)).2 (by omega));grind
 ·rintro⟨k,hk,h1,h2⟩
  by_cases e:(gD l k).from_=d
  ·left;have e1:¬k<lT l d:=fun q=>by have:=am ((hi k hk).2 q);omega
   have e2:¬lT l d<k:=fun q=>by
    have h3:=h.at q hk;have h4:=h.okAt (k:=lT l d) (by omega);grind[jy]
   have e3:lT l d=k:=by omega
   rw[e3];exact⟨jy (by simp_all),C6.2 e⟩
  ·right;have e1:k<lT l d:=(hi k hk).1 (jy (by omega));have e2:¬k+1<lT l d:=fun q=>by
    have h3:=h.at (j:=k) (k:=k+1) (by omega) (by omega);have:=am ((hi (k+1) (by omega)).2 q);omega
   grind[jy]
def pq(l:List PSpan):List Int:=l.flatMap fun s=>[s.from_,s.to]
theorem C1(s:PSpan)(r:List PSpan):pq (s::r)=[s.from_,s.to]++pq r:=by simp[pq]
theorem kz:∀(l:List PSpan),(pq l).length=2*l.length
 |[]=>rfl
 |s::r=>by rw[C1];simp[kz r];omega
theorem HV{l:List PSpan}{s:PSpan}(h:s∈l):s.from_∈pq l∧s.to∈pq l:=by
 unfold pq;grind
def j8(g:Int→Bool):List Int→List PSpan
 |[]=>[]
 | a::r=>match r with
  |[]=>[]
  |b::_=>match g a with
   |true=>⟨a,b⟩::j8 g r
   |false=>j8 g r
theorem Fp(g:Int→Bool)(a b:Int)(r:List Int):j8 g (a::b::r)=match g a with|true=>⟨a,b⟩::j8 g (b::r)|false=>j8 g (b::r):=by rw[j8]
def sX:Int→List Int→Int
 |a,[]=>a
 |_,b::r=>sX b r
theorem zM:∀{r:List Int}{a:Int},(a::r).Pairwise (fun a b=>a<b)→a≤sX a r∧∀z,z∈r→z≤sX a r
 |[],a,_=>⟨wY _,fun z h=>by grind⟩
 |b::r,a,h=>by
  obtain⟨h1,h2⟩:=gT.1 h;have h3:=h1 b (eW ..);obtain⟨k1,k2⟩:=zM h2;grind[sX]
theorem Ft{g:Int→Bool}{C:List Int}(hg:∀x y,(∀z,z∈C→z≤x∨y≤z)→∀d,x≤d→d<y→g d=g x):
  ∀(r:List Int)(a:Int),(a::r).Pairwise (fun a b=>a<b)→(∀z,z∈C→z≤a∨z∈r)→∀d,memB (j8 g (a::r)) d=(decide (a≤d∧d<sX a r)&&g d)
 |[],a,_,_,d=>by
  have:decide (a≤d∧d<sX a [])=false:=by grind[sX]
  rw[this];rfl
 | b::r,a,hp,hC,d=>by
  obtain⟨h1,h2⟩:=gT.1 hp;have hab:=h1 b (eW ..);obtain⟨hb2,h3⟩:=gT.1 h2;have hl:=(zM h2).1;have ih:=Ft hg r b h2 (fun z hz=>by grind) d;have hc:∀d,a≤d→d<b→g d=g a:=hg a b fun z hz=>by grind
  have e0:memB (j8 g (a::b::r)) d=((g a&&decide (a≤d∧d<b))||memB (j8 g (b::r)) d):=by
   rw[Fp];cases g a with
   |true=>rw[eA,Bool.true_and]
   |false=>simp_all
  rw[e0,ih,show sX a (b::r)=sX b r from rfl];grind
def ib(A:List PSpan):List Int:=an (be (pq A))
theorem LD(A:List PSpan):(ib A).Pairwise (fun a b=>a<b)∧∀z,z∈ib A↔z∈pq A:=by
 obtain⟨h1,h2⟩:=s7 (oG (pq A));exact⟨h1,fun z=>(h2 z).trans (jl (pq A)).mem_iff⟩
theorem zi{A l:List PSpan}(hl:∀s,s∈l→s∈A){x y:Int}(hz:∀z,z∈ib A→z≤x∨y≤z){d:Int}(h1:x≤d)(h2:d<y):memB l d=memB l x:=by
 have key:∀s,s∈l→((s.from_≤d∧d<s.to)↔(s.from_≤x∧x<s.to)):=fun s hs=>by
  obtain⟨k1,k2⟩:=HV (hl s hs);grind[LD]
 rw[Bq,hJ,hJ];grind
theorem MF{op:Bool→Bool→Bool}(h0:op false false=false)(A B:List PSpan)(d:Int):memB (j8 (fun d=>op (memB A d) (memB B d)) (ib (A++B))) d=op (memB A d) (memB B d):=by
 obtain⟨h1,h2⟩:=LD (A++B);have out:∀(z1 z2:Int),(∀z,z∈ib (A++B)→z1≤z∧z≤z2)→¬(z1≤d∧d<z2)→op (memB A d) (memB B d)=false:=fun z1 z2 hz hd=>by
  have no:∀l:List PSpan,(∀s,s∈l→s∈A++B)→memB l d=false:=fun l hl=>by
   cases q:memB l d with
   |false=>rfl
   |true=>
    obtain⟨s,k1,k2,k3⟩:=hJ.1 q;obtain⟨k4,k5⟩:=HV (hl s k1);grind
  simp_all
 cases hC:ib (A++B)with
 |nil=>
  rw[j8,mI];exact(out (d+1) d (fun z hz=>by grind) (by omega)).symm
 | cons a r=>
  rw[hC]at h1;have hl:=zM h1;have hp:=(gT.1 h1).1;rw[Ft (C:=ib (A++B)) (fun x y hz d h3 h4=>by
   show op (memB A d) (memB B d)=op (memB A x) (memB B x)
   rw[zi (A:=A++B) (fun s hs=>BE _ hs) hz h3 h4,zi (A:=A++B) (fun s hs=>wV _ hs) hz h3 h4]) r a h1 (fun z hz=>by
   grind) d]
  by_cases q:a≤d∧d<sX a r;all_goals grind
theorem Ap(A:List PSpan):(ib A).length≤2*A.length:=by
 have:=xy (be (pq A));have h2:=(jl (pq A)).length_eq;grind[kz,ib]
theorem CY{g:Int→Bool}{C:List Int}{x:Nat}(h1:1≤x)(h2:x<C.length):j8 g (C.drop (x-1))=match g (gD C (x-1))with|true=>⟨gD C (x-1),gD C x⟩::j8 g (C.drop (x+1-1))|false=>j8 g (C.drop (x+1-1)):=by grind[Ej,Fp]
theorem lQ{g:Int→Bool}{C:List Int}{x:Nat}(h1:1≤x)(h2:C.length≤x):j8 g (C.drop (x-1))=[]:=by
 have:(C.drop (x-1)).length≤1:=by simp_all
 match C.drop (x-1),this with
 |[],_=>rfl
 |[_],_=>rfl
 |_::_::_,h=>simp_all
noncomputable def sY(op:Bool→Bool→Bool)(a b:List PSpan):List PSpan:=nf fun d=>op (memB a d) (memB b d)
theorem kG(l:List PSpan):NrmS (g0 l):=zd _
theorem Ch(l:List PSpan)(d:Int):memB (g0 l) d=(Oo d&&memB l d):=IP _ d
theorem OV{op:Bool→Bool→Bool}(h0:op false false=false){a b A B:List PSpan}(hA:g0 a=A)(hB:g0 b=B):g0 (j8 (fun d=>op (gI A d) (gI B d)) (ib (A++B)))=sY op a b:=by
 have nA:NrmS A:=hA▸kG a;have nB:NrmS B:=hB▸kG b;have e:(fun d=>op (gI A d) (gI B d))=fun d=>op (memB A d) (memB B d):=funext fun d=>by grind[DI]
 rw[e];unfold g0 sY;refine QZ fun d hd=>?_
 rw[MF h0,←hA,←hB,Ch,Ch,hd,Bool.true_and,Bool.true_and]
end Go.Ev
namespace Go.Ev
open Go
section
variable{H:Type}{enc:TypeId×Value→H}{P:Program}{w:World}{base:Nat}{spare:Nat→Bool}{held:Bool}
inductive VL(M:dt):List AV→List Value→Prop
 |nil:VL M [] []
 |cons {x:AV} {v:Value} {xs:List AV} {vs:List Value} (h:VRel (fun _=>none) M x v) (t:VL M xs vs):VL M (x::xs) (v::vs)
theorem VL.append{M:dt}{xs ys:List AV}{a b:List Value}(h:VL M xs a)(k:VL M ys b):VL M (xs++ys) (a++b):=by
 induction h with
 |nil=>grind
 |cons h _ ih=>exact .cons h ih
theorem VL.at_{M:dt}{xs:List AV}{a:List Value}(h:VL M xs a):∀(j:Nat)(y:AV),xs[j]?=some y→∃v,a[j]?=some v∧VRel (fun _=>none) M y v:=by
 induction h with
 |nil=>simp_all
 |cons h _ ih=>grind
theorem VL.one{M:dt}{x:AV}{cs:List Value}(h:VL M [x] cs):∃v,cs=[v]∧VRel (fun _=>none) M x v:=by
 cases h with
 |cons h t=>cases t;simp_all
def Wt(P:Program)(t:TypeId)(d:DataW H):Prop:=∀m,m∈d.weights P t→m≤reachBytes
theorem pT{e:TypeId}{d:DataW H}{m:Nat}(hm:m∈d.weights P e):∀{l:List (DataW H)},d∈l→m∈DataW.weightsAll P e l
 |[],h=>by grind
 |a::r,h=>by
  unfold DataW.weightsAll;rcases ez.1 h with rfl|h
  ·simp_all
  ·exact wV _ (pT hm h)
theorem lE{t:TypeId}{d:DataW H}{m:Nat}(hm:m∈d.weights P t):∀{ts:List TypeId}{l:List (DataW H)}(i:Nat),ts[i]?=some t→l[i]?=some d→m∈DataW.weightsEach P ts l
 |[],_,i,h,_=>by simp_all
 |_::_,[],i,_,h=>by simp_all
 |u::ts,a::r,i,h1,h2=>by
  unfold DataW.weightsEach;cases i with
  |zero=>simp_all
  |succ i=>exact wV _ (lE hm i (by simp_all) (by simp_all))
def Ef(P:Program):List Field→Nat→Nat→Bool
 |[],off,n=>Nat.beq off n
 |f::r,off,n=>Nat.beq f.offset off&&Ef P r (off+P.cellsOf f.type) n
def VF(M:dt)(P:Program)(cs:List Value):List Field→List (List AV)→Prop
 |[],[]=>True
 |f::fs,xs::xss=>VL M xs ((cs.drop f.offset).take (P.cellsOf f.type))∧VF M P cs fs xss
 |_,_=>False
theorem VF.vl{M:dt}{cs:List Value}:∀{fs:List Field}{xss:List (List AV)}{off:Nat},Ef P fs off cs.length=true→VF M P cs fs xss→VL M xss.flatten (cs.drop off)
 |[],[],off,h,_=>by
  have:=pM h;rw[this,List.drop_length];exact .nil
 |[],_::_,_,_,h=>h.elim
 |_::_,[],_,_,h=>h.elim
 |f::fs,xs::xss,off,h,k=>by
  unfold Ef at h;rw[bq]at h;have ho:=pM h.1;have h1:=k.1;rw[ho]at h1;have h2:=VF.vl h.2 k.2;have e:cs.drop off=(cs.drop off).take (P.cellsOf f.type)++cs.drop (off+P.cellsOf f.type):=by grind[List.drop_drop,List.take_append_drop]
  rw[List.flatten_cons,e];exact h1.append h2
def TF(enc:TypeId×Value→H)(P:Program)(w:World)(base:Nat)(spare:Nat→Bool)(held:Bool)(n:Nat)(cs:List Value):List Field→Prop
 |[]=>True
 |f::fs=>(∃d p,DataW.trod enc P w base spare held n f.type ((cs.drop f.offset).take (P.cellsOf f.type))=some (d,p)∧Wt P f.type d)∧TF enc P w base spare held n cs fs
theorem VT{n:Nat}{cs:List Value}:∀(fs:List Field),(∀(i:Nat)(f:Field),fs[i]?=some f→∃d p,DataW.trod enc P w base spare held n f.type ((cs.drop f.offset).take (P.cellsOf f.type))=some (d,p)∧Wt P f.type d)→TF enc P w base spare held n cs fs
 |[],_=>trivial
 |f::fs,h=>⟨h 0 f rfl,VT fs fun i g hg=>h (i+1) g (by simp_all)⟩
theorem iI{t:TypeId}{fs:Array Field}{fuel:Nat}{cs:List Value}{d:DataW H}{p:List MemPlace}(hu:P.underlying t=some (.struct fs))(hc:Ef P fs.toList 0 (P.cellsOf t)=true)
  (h:DataW.trod enc P w base spare held fuel t cs=some (d,p))(hw:Wt P t d):
  ∃n,fuel=n+1∧TF enc P w base spare held n cs fs.toList∧∀xss,VF (ce w) P cs fs.toList xss→VL (ce w) xss.flatten cs:=by
 obtain⟨xs,n,rfl,h1,h2,h3,h4⟩:=DataW.trod_struct hu h;simp only[tJ]at h1;obtain⟨rfl,_⟩:=h1;refine⟨n,rfl,VT _ fun i f hf=>?_,fun xss hx=>?_⟩
 ·have hf':fs[i]?=some f:=by simp_all
  have hi:i<xs.length:=by grind
  have e:=h4 i f hf';rw[lD hi]at e;refine⟨xs[i].1,xs[i].2,e,fun m hm=>hw m ?_⟩;unfold DataW.weights;rw[hu];exact lE hm i (by simp_all) (by grind)
 ·have:=VF.vl (off:=0) (by simp_all) hx;simp_all
theorem gd{t:TypeId}{fuel:Nat}{cs:List Value}{d:DataW H}{p:List MemPlace}(hu:P.underlying t=some (.int .i64))(h:DataW.trod enc P w base spare held fuel t cs=some (d,p)):∃x,VL (ce w) [.int .i64 x] cs:=by
 obtain⟨x,rfl,_⟩:=DataW.trod_int hu h;exact⟨x,.cons (.int _ _) .nil⟩
theorem np{t:TypeId}{fuel:Nat}{cs:List Value}{d:DataW H}{p:List MemPlace}(hu:P.underlying t=some .string)(h:DataW.trod enc P w base spare held fuel t cs=some (d,p)):∃s,VL (ce w) [.str s] cs:=by
 obtain⟨⟨⟨s⟩⟩,rfl,_⟩:=DataW.trod_string hu h;exact⟨s,.cons (.str _) .nil⟩
theorem LJ{α:Type}{Q:Nat→α→Prop}:∀(n:Nat),(∀i,i<n→∃x,Q i x)→∃l:List α,l.length=n∧∀i x,l[i]?=some x→Q i x
 |0,_=>⟨[],rfl,fun i x h=>by simp_all⟩
 |n+1,h=>by
  obtain⟨l,h1,h2⟩:=LJ n fun i hi=>h i (by omega)
  obtain⟨y,hy⟩:=h n (by omega);refine⟨l++[y],by simp_all,fun i x hx=>?_⟩;grind
theorem Zx{x:AV}(h:x.cells.all cH=true):Sc x:=fun y hy=>l9.1 h y hy
theorem yS{α:Type}(el:α→AV)(fit:α→Prop){t e:TypeId}{fuel:Nat}{cs:List Value}{d:DataW H}{p:List MemPlace}(hu:P.underlying t=some (.slice e))(hsz:Nat.blt 0 (P.cellsOf e)=true)(hby:Nat.blt 0 (P.bytesOf e)=true)
  (hel:∀x,(el x).cells.length=P.cellsOf e)(hsc:∀x,(el x).cells.all cH=true)(htop:∀x,(el x).top=0)
  (hrec:∀m,m<fuel→∀cs d p,DataW.trod enc P w base spare held m e cs=some (d,p)→Wt P e d→∃x,fit x∧VL (ce w) (el x).cells cs)
  (h:DataW.trod enc P w base spare held fuel t cs=some (d,p))(hw:Wt P t d):
  ∃l:List α,l.length<2^47∧(∀x,x∈l→fit x)∧VL (ce w) [.ls (l.map el)] cs:=by
 rw[dl]at hsz hby;simp only[decide_eq_true_eq]at hsz hby;rcases DataW.trod_slice hu h with⟨rfl,_⟩|⟨a,len,cap,elems,rest,n,rfl,rfl,h1,h2,h3,h4,h5,h6,_,_⟩
 ·exact⟨[],Nat.two_pow_pos 47,fun x h=>absurd h (List.not_mem_nil),.cons .lsn .nil⟩
 ·simp only[tJ]at h1;obtain⟨rfl,_⟩:=h1;have hwl:len<2^47:=by
   have:=hw ((elems.length+rest.length)*P.bytesOf e) (by grind[DataW.weights]);have h7:elems.length≤(elems.length+rest.length)*P.bytesOf e:=bT (Nat.le_add_right _ _) (Nat.le_mul_of_pos_right _ hby);have:elems.length≤reachBytes:=bT h7 this;rw[h5]at this;exact nK this (by decide)
  have el0:∀i,i<len→∃x,fit x∧∃cs:List Value,cs.length=P.cellsOf e∧(∀j,j<P.cellsOf e→w.cell? ((a.add (i*P.cellsOf e)).add j)=cs[j]?)∧VL (ce w) (el x).cells cs:=by
   intro i hi;have k5:=h6 i hi;have hi':i<elems.length:=by omega
   rw[lD hi']at k5;simp only[Option.bind_eq_some_iff]at k5;obtain⟨cs,c1,c2⟩:=k5;obtain⟨z1,z2⟩:=DQ c1;obtain⟨x,f1,f2⟩:=hrec n (by omega) cs elems[i].1 elems[i].2 c2 (fun m hm=>hw m (by
    unfold DataW.weights;rw[hu];exact eJ _ (BE _ (pT hm (ke.2 ⟨elems[i],Dk hi',rfl⟩)))))
   grind
  obtain⟨l,q1,q2⟩:=LJ len el0;refine⟨l,by omega,fun x hx=>?_,.cons ?_ .nil⟩
  ·obtain⟨i,hi⟩:=E9.1 hx;grind
  ·have q1':(l.map el).length=len:=by simp_all
   generalize hys:l.map el=ys at *;have q3:∀i y,ys[i]?=some y→∃cs:List Value,cs.length=P.cellsOf e∧(∀j,j<P.cellsOf e→w.cell? ((a.add (i*P.cellsOf e)).add j)=cs[j]?)∧VL (ce w) y.cells cs:=by grind
   have q4:∀y,y∈ys→y.cells.length=P.cellsOf e∧Sc y:=by grind[Zx]
   have q5:aq ys=0:=by grind[aX]
   have addadd:∀i j:Nat,a.spot=none→(a.add i).add j=⟨a.block,a.off+i+j,none⟩:=by
    intro i j hs;obtain⟨blk,off,spot⟩:=a;grind[Addr.add]
   have spot:ys≠[]→a.spot=none:=by
    intro hne;obtain⟨x,hx⟩:∃x,ys[0]?=some x:=by
     cases ys with
     |nil=>simp_all
     |cons x r=>exact⟨x,rfl⟩
    grind[rl,Addr.add]
   have cell:∀(i j:Nat)(x:AV),ys[i]?=some x→j<P.cellsOf e→∃c v,ce w a.block=some c∧c[a.off+i*P.cellsOf e+j]?=some v∧∀y,x.cells[j]?=some y→VRel (fun _=>none) (ce w) y v:=by
    intro i j x hx hj;obtain⟨cs,c1,c2,c3⟩:=q3 i x hx;have:=c2 j hj;rw[lD (by omega),addadd _ _ (spot (by grind))]at this;obtain⟨_,c,m1,m2⟩:=rl this;refine⟨c,_,m1,m2,fun y hy=>?_⟩;obtain⟨v,g1,g2⟩:=c3.at_ j y hy;simp_all
   refine .lsp ?_ q5;by_cases hne:ys=[]
   ·subst hne;simp at q1';subst q1';exact .ps (sz:=P.cellsOf e) (c:=#[]) (by simp) (fun h=>by grind) (fun h=>absurd rfl h) (fun x h=>by simp_all) (fun i x j y h=>by simp_all)
   ·have hlen:0<ys.length:=pP.2 hne;obtain⟨x0,hx0⟩:∃x,ys[ys.length-1]?=some x:=⟨ys[ys.length-1],by simp⟩
    obtain⟨c,v0,m1,m2,_⟩:=cell (ys.length-1) (P.cellsOf e-1) x0 hx0 (by omega);have hc:=(wq.1 m2).1;have hfit:a.off+ys.length*P.cellsOf e≤c.size:=by
     have h1:(ys.length-1)*P.cellsOf e+P.cellsOf e=ys.length*P.cellsOf e:=by rw[←pS];grind
     omega
    have:=VRel.ps (pl:=fun _=>none) (M:=ce w) (xs:=ys) (tight:=false) (a:=a) (cap:=cap) (sz:=P.cellsOf e) (c:=c) (by omega) (fun h=>by grind) (fun _=>⟨spot hne,m1,hfit,hsz⟩) q4
     (fun i x j y hx hy=>by
      obtain⟨r1,_⟩:=q4 x (bi hx);have hj:j<P.cellsOf e:=by grind
      obtain⟨c',v,n1,n2,n3⟩:=cell i j x hx hj;simp_all)
    simp_all
theorem mn{α:Type}(el:α→AV)(fit:α→Prop){t e:TypeId}{fuel:Nat}{cs:List Value}{d:DataW H}{p:List MemPlace}(hu:P.underlying t=some (.slice e))(hsz:Nat.blt 0 (P.cellsOf e)=true)(hby:Nat.blt 0 (P.bytesOf e)=true)
  (hel:∀x,(el x).cells.length=P.cellsOf e)(hsc:∀x,(el x).cells.all cH=true)(htop:∀x,(el x).top=0)
  (hrec:∀m,m<fuel→∀cs d p,DataW.trod enc P w base spare held m e cs=some (d,p)→Wt P e d→∃x,fit x∧VL (ce w) (el x).cells cs)
  (h:DataW.trod enc P w base spare held fuel t cs=some (d,p))(hw:Wt P t d):
  ∃l:List α,l.length<2^60∧(∀x,x∈l→fit x)∧VL (ce w) [.ls (l.map el)] cs:=by
 have⟨l,h1,h2⟩:=yS el fit hu hsz hby hel hsc htop hrec h hw;grind
end
end Go.Ev
namespace Go.Ev
open Go
structure PPair where
 a:Int
 b:Int
deriving Inhabited,DecidableEq
structure PRef where
 act:Int
 item:Int
deriving Inhabited,DecidableEq
def nY(u:TUnit):List PWord:=u.head++u.words
mutual
def m8:TUnit→List PWord
 |⟨_,_,_,_,_,h,w,ks⟩=>(h++w)++km ks
def km:List TUnit→List PWord
 |[]=>[]
 |k::r=>m8 k++km r
end
theorem L5(u:TUnit):m8 u=nY u++km u.kids:=by obtain⟨a,b,c,d,e,h,w,ks⟩:=u;rw[m8];rfl
theorem Dx:km []=[]:=by rw[km]
theorem tQ(k:TUnit)(r:List TUnit):km (k::r)=m8 k++km r:=by rw[km]
theorem ra{k:Int}:∀{m:List (Int×Int)},eX k m=none→¬k∈m.map (·.1)
 |[],_=>by simp
 | (i,x)::r,h=>by
  simp only[eX]at h;cases e:al k i with
  |true=>grind
  |false=>
   rw[e]at h;have:=ra h;grind[HW]
section
variable{u w':TUnit}{ws:List PWord}{w:PWord}{r:List PWord}{ks:List TUnit}{m x:List (Int×Int)}{c B:Int}
end
theorem VRel.ls0{pl:Pl}{M:dt}{x:Value}(h:VRel pl M (.ls []) x):VRel pl M .nils x∨VRel pl M (.ps [] false) x:=by
 cases h with
 |lsn=>exact .inl .nils
 |lsp h _=>simp_all
theorem EO{P:Program}{G:eE}{f:FuncId}{a b c:List AV}{h:AHeap}{Ψ:AV→AHeap→Prop}(hs:∀pl M vs,VRels pl M c vs→VRels pl M a vs∨VRels pl M b vs)(h1:aL P G f a h Ψ)(h2:aL P G f b h Ψ):aL P G f c h Ψ:=fun pl M w vs hg hr hv=>(hs pl M vs hv).elim (h1 pl M w vs hg hr) (h2 pl M w vs hg hr)
theorem VRels.first{pl:Pl}{M:dt}{x y z:AV}{r:List AV}{vs:Array Value}(h:VRels pl M (z::r) vs)(hs:∀v,VRel pl M z v→VRel pl M x v∨VRel pl M y v):VRels pl M (x::r) vs∨VRels pl M (y::r) vs:=by
 obtain⟨h1,h2⟩:=h;have lift:∀u,VRel pl M u (vs.getD 0 undef)→VRels pl M (u::r) vs:=fun u hu=>⟨h1,fun j y hj=>by
  cases j with
  |zero=>grind
  |succ j=>simp_all⟩
 exact(hs _ (h2 0 z rfl)).imp (lift x) (lift y)
end Go.Ev
namespace Go.Ev
open Go
theorem aO{n b m:Nat}(h1:n≤m)(h2:m≤2^40)(h3:m*b≤2^40):small n b=true:=by
 unfold small;have h4:n*b≤m*b:=eC b h1;grind[Nat.ble_eq_true_of_le]
def YQ(d:Int):List Int→List Int
 |[]=>[d]
 |x::r=>bif ao x d then x::YQ d r else bif al x d then x::r else d::x::r
def gu(ws:List PWord)(l:List Int):List Int:=ws.foldl (fun l w=>YQ w.act l) l
end Go.Ev
namespace Go.Ev
open Go
def TX{α:Type}:Result α→World
 | .ok _ w=>w
 | .halt _ w=>w
def gW:GStep→World
 | .go _ w _=>w
 | .comm _ _ _ _ w _=>w
 | .spawn _ _ w _=>w
 | .count _ w _=>w
 | .timer _ _ w _=>w
 | .alone _ _ w _=>w
 | .newcoro _ _ _ w _=>w
 | .coroswitch _ _ _ w _=>w
 | .collect _ w _=>w
 | .watch _ w _=>w
 | .ended _ w _=>w
theorem lz(es:Array Event)(g:GStep):gW (GStep.after es g)=gW g:=by cases g<;>rfl
theorem JD{α:Type}:∀(q:Ask α)(w:World),w.drawn≤(w.ask q).2.drawn
 | .done a,w=>au _
 | .ask what range k,w=>by
  rw[World.ask];split
  ·exact JD (k 0) w
  ·exact bT (nP _) (JD _ {w with drawn:=w.drawn+1})
theorem PQ(w:World)(c:Sys):w.drawn≤(w.sys c).2.drawn:=by
 unfold World.sys;have h:=JD (Kernel.perform c w.os) w;grind
theorem xl{p:Program}{w w':World}{at_:Addr}{u:TypeId}{k:Addr}{v:Value}{b:Bool}{l:List Addr}(h:w.viewStore p at_ u k v b=.ok (w',l)):w'.drawn=w.drawn:=by
 unfold World.viewStore at h;simp only[bind,Except.bind,pure,Except.pure]at h
 repeat' split at h
 all_goals first|cases h;done|(injection h with h;injection h with h1 h2;rw[←h1])
theorem Ay{p:Program}{w w':World}{a:Addr}{v:Value}{b:Bool}{l:List Addr}(h:w.farStore p a v b=.ok (w',l)):w'.drawn=w.drawn:=by
 unfold World.farStore at h
 repeat' split at h
 all_goals first|cases h;done|grind[xl]
theorem EW(w:World)(a:Addr)(n:Nat):(w.freeze a n).drawn=w.drawn:=by unfold World.freeze;grind
theorem Pb(p:Program){α:Type}(s:Sem α):∀(w:World),w.drawn≤(TX (s.run p w)).drawn:=by
 induction s with
 |pure a=>exact fun w=>au _
 |load m a k ih=>
  intro w;simp only[Sem.run]
  repeat' split
  all_goals first|exact ih _ _|exact au _
 | store m a v k ih=>
  intro w;cases v
  all_goals simp only[Sem.run]
  all_goals first
   |exact au _
   |((repeat' split);all_goals first|exact au _|exact ih (w.setCell _ _)|(rename_i e;refine bT ?_ (ih _);rw[Ay e];exact au _))
 |new o k ih=>grind[Sem.run]
 |shape r k ih=>grind[Sem.run]
 |freeze a n k ih=>intro w;simp only[Sem.run];refine bT ?_ (ih _);simp_all[EW]
 |frozen a k ih=>grind[Sem.run]
 |getObj r k ih=>
  intro w;simp only[Sem.run]
  repeat' split
  all_goals first|exact ih _ _|exact au _
 |setObj r o k ih=>
  intro w;simp only[Sem.run]
  repeat' split
  all_goals first|exact ih {w with heap:=w.heap.setIfInBounds r o}|exact au _
 |choose q k ih=>
  intro w;simp only[Sem.run];grind
 |sys c k ih=>grind[Sem.run,PQ]
 |program k ih=>grind[Sem.run]
 |mark m k ih=>grind[Sem.run]
 |halt h=>exact fun w=>au _
theorem cD{p:Program}{α:Type}{s:Sem α}{w:World}{r:Result α}(h:s.run p w=r):w.drawn≤(TX r).drawn:=h▸Pb p s w
theorem S9{p:Program}{α:Type}{s:Sem α}{w:World}{es es':Array Event}{r:Result α}(h:s.runT p w es=(r,es')):w.drawn≤(TX r).drawn:=by
 have:=Sem.runT_fst p s w es;rw[h]at this;exact cD this.symm
theorem Jf(w:World)(fd:Nat)(text:ByteArray)(o:Outcome):w.drawn≤(gW (endWith w fd text o)).drawn:=by
 unfold endWith;simp only[];have h:=PQ w (.write fd text);split;all_goals (rename_i e;rw[e]at h)
 all_goals repeat' split
 all_goals exact h
theorem xq(fr:Frame)(m:String)(w:World):w.drawn≤(gW (endThrow fr m w)).drawn:=au _
theorem qB(p:Program)(fr:Frame)(v:Value)(w:World):w.drawn≤(gW (endPrinting p fr v w)).drawn:=by
 unfold endPrinting;simp only[]
 repeat' split
 all_goals exact au _
theorem xz(p:Program)(fr:Frame)(cs:List Frame)(d:Option Dying)(m:String)(w:World):w.drawn≤(gW (endFatal p fr cs d m w)).drawn:=by
 unfold endFatal;simp only[];split;all_goals (rename_i e;exact cD e)
theorem IX(p:Program)(fr:Frame)(d:Dying)(f:Fatal)(w:World):w.drawn≤(gW (writeOn p fr d f w)).drawn:=by
 unfold writeOn;split
 ·exact au _
 ·simp only[];split;all_goals (rename_i e;exact S9 e)
theorem Xq(p:Program)(fr:Frame)(d:Dying)(w:World):w.drawn≤(gW (die p fr d w)).drawn:=by
 unfold die;split
 ·grind[IX]
 ·split
  ·split
   ·exact au _
   grind[Jf]
  ·simp only[];split
   ·exact au _
   ·split;all_goals (rename_i e;exact cD e)
   ·rw[lz];split;all_goals first|(rename_i e;exact cD ((Sem.runT_fst ..).symm.trans e))|skip
    ·rename_i e;exact bT (cD ((Sem.runT_fst ..).symm.trans e)) (qB ..)
    ·exact au _
   ·exact au _
theorem qD(p:Program)(main:Bool)(fr:Frame)(cs:List Frame)(d:Option Dying)(v:Value)(w:World):w.drawn≤(gW (doReturn p main fr cs d v w)).drawn:=by
 unfold doReturn
 repeat' split
 all_goals exact au _
theorem sM{c:Prop}[Decidable c]{a b:GStep}{n:Nat}(h1:n≤(gW a).drawn)(h2:n≤(gW b).drawn):n≤(gW (if c then a else b)).drawn:=by grind
theorem xA(p:Program)(fr:Frame)(cs:List Frame)(dy:Option Dying)(d:Deferred)(w:World):w.drawn≤(gW (callDeferred p fr cs dy d w)).drawn:=by
 unfold callDeferred;refine sM ?_ ?_
 ·exact au _
 ·simp only[];rw[lz];split;all_goals (rename_i e;have h:=cD ((Sem.runT_fst ..).symm.trans e))
  all_goals first|exact h|exact bT h (xz ..)|((repeat' split)<;>exact h)
theorem MJ(p:Program)(main:Bool)(fr:Frame)(cs:List Frame)(dy:Option Dying)(w:World):w.drawn≤(gW (unwind p main fr cs dy w)).drawn:=by
 unfold unwind;split
 ·simp only[];rw[lz];split;all_goals (rename_i e;exact cD ((Sem.runT_fst ..).symm.trans e))
 ·grind[xA]
 ·split
  ·exact au _
  ·split
   ·exact au _
   ·split
    ·exact au _
    ·split
     ·split
      ·exact au _
      ·split;all_goals (rename_i e;exact cD e)
     ·split
      ·grind[qB]
      ·exact au _
  ·split
   ·grind[qD]
   ·simp only[];rw[lz];split;all_goals (rename_i e;have h:=cD ((Sem.runT_fst ..).symm.trans e))
    all_goals first|exact h|exact bT h (qD ..)
theorem Rc(p:Program)(fr:Frame)(cs:List Frame)(dy:Option Dying)(g:Nat)(w:World):w.drawn≤(gW (early p fr cs dy g w)).drawn:=by
 unfold early;simp only[]
 repeat' split
 all_goals first|exact au _|(rename_i e;exact cD e)|(rename_i e _;exact cD e)|(rename_i e _ _;exact cD e)|(rename_i e _ _ _ _;exact cD e)
theorem uP(p:Program)(listen:Bool)(fr:Frame)(cs:List Frame)(dy:Option Dying)(s:Sem Next)(w:World):w.drawn≤(gW (stepG.apply p listen fr cs dy s w)).drawn:=by
 unfold stepG.apply;simp only[];rw[lz];have h0:w.drawn≤(TX (if listen=true then Sem.runT p s w #[]else(Sem.run p s w,#[])).fst).drawn:=by
  cases listen
  ·grind[Pb]
  ·exact cD (Sem.runT_fst ..).symm
 generalize (if listen=true then Sem.runT p s w #[]else(Sem.run p s w,#[])).fst=r at h0 ⊢;split;all_goals first|exact h0|exact bT h0 (xz ..)|exact bT h0 (Rc ..)|exact bT h0 (xq ..)|skip
 all_goals repeat' split
 all_goals first|exact h0|exact bT h0 (xq ..)|skip
theorem Tc(p:Program)(listen:Bool)(fr:Frame)(cs:List Frame)(dy:Option Dying)(w:World):w.drawn≤(gW (stepG.oper p listen fr cs dy w)).drawn:=by
 unfold stepG.oper;split
 ·exact au _
 ·split;all_goals exact uP ..
theorem Um(p:Program)(main listen:Bool)(fr:Frame)(cs:List Frame)(dy:Option Dying)(w:World):w.drawn≤(gW (stepG.exec p main listen fr cs dy w)).drawn:=by
 have lv:∀(l:Nat)(jump:Option Code),w.drawn≤(gW (GStep.after (seen p fr.fn ((Instr.endRound l jump).runT p w #[]).snd) (match((Instr.endRound l jump).runT p w #[]).fst with| .ok v w=>doReturn p main fr cs dy v w| .halt _ w=>.ended (.stuck "range over a function: no such loop" (fr.pos p)) w))).drawn :=by
  intro l jump;rw[lz];have h0:=cD (Sem.runT_fst p (Instr.endRound l jump) w #[]).symm;split;all_goals (rename_i e;rw[e]at h0)
  ·exact bT h0 (qD ..)
  ·exact h0
 unfold stepG.exec;simp only[];split;all_goals first|exact au _|exact uP .. |skip
 ·split
  ·exact sM (au _) (au _)
  grind
 ·split
  ·exact sM (au _) (au _)
  grind
 ·split<;>exact au _
 ·rename_i id k _;cases exitTo id k with
  |none=>simp only[Option.elim];split;exact sM (au _) (au _);grind
  |some k'=>exact au _
 ·rename_i id k _;cases gotoIn id k with
  |none=>simp only[Option.elim];split;exact sM (au _) (au _);grind
  |some k'=>exact au _
 ·rw[lz];split
  ·rename_i e;exact bT (cD ((Sem.runT_fst ..).symm.trans e)) (uP ..)
  ·rename_i e;exact cD ((Sem.runT_fst ..).symm.trans e)
 ·rw[lz];split<;>rename_i e<;>exact cD ((Sem.runT_fst ..).symm.trans e)
 ·rename_i row _ _ _;cases Extern.next row with
  |none=>exact au _
  |some e=>grind[uP]
 ·refine sM (au _) ?_;split<;>rename_i e<;>exact cD e
 ·exact sM (Tc ..) (au _)
theorem PW(p:Program)(main listen:Bool)(g:Goroutine)(w:World):w.drawn≤(gW (stepG p main g w listen)).drawn:=by
 unfold stepG;grind[Xq,Um,MJ]
def sD(n:Nat):Stepped→Prop
 | .next m=>n≤m.world.drawn
 | .ended _ _=>True
theorem sD.trans{n k:Nat}{s:Stepped}(h:n≤k)(g:sD k s):sD n s:=by
 cases s with
 |next m=>exact bT h g
 |ended o w=>trivial
theorem Qg{c:Prop}[Decidable c]{a b:Stepped}{n:Nat}(h1:sD n a)(h2:sD n b):sD n (if c then a else b):=by grind
theorem LW(p:Program)(gs:Array Goroutine)(rest:Rest)(w:World):sD w.drawn (look p gs rest w):=by
 unfold look;simp only[];split
 ·refine Qg trivial ?_;split
  ·trivial
  ·split<;>rename_i e<;>first|exact cD e|trivial
 ·trivial
theorem xi{rest:Rest}{cases:Array CommCase}{w w':World}(h:waitingAt rest cases w=some w'):w'.drawn=w.drawn:=by
 unfold waitingAt at h
 repeat' split at h
 all_goals first|(cases h;done)|(cases h;rfl)
theorem D6{c:Prop}[Decidable c]{a b:Stepped×Array MemOp}{n:Nat}(h1:sD n a.1)(h2:sD n b.1):sD n (if c then a else b).1:=by grind
theorem AA(p:Program)(rest:Rest)(gs:Array Goroutine)(i:Nat)(g:Goroutine)(cs:Array CommCase)(bl:Bool)(sh:CommShape)(w:World):sD w.drawn (communicate p rest gs i g cs bl sh w).1:=by
 unfold communicate;simp only[];refine D6 trivial (D6 (D6 ?_ (au _)) ?_)
 ·split
  ·rename_i e;exact wU (xi e).symm
  ·trivial
 ·split
  ·trivial
  ·rename_i w1 e;have h:w.drawn≤w1.drawn:=cD e;clear e;split
   ·split
    ·rename_i e;exact bT h (cD e)
    ·trivial
   ·exact h
   ·exact h
   ·split
    ·exact h
    ·split
     ·rename_i e;exact bT h (cD e)
     ·trivial
   ·exact h
   ·exact h
   ·trivial
theorem Pv(p:Program)(m:Machine)(k:Nat):sD m.world.drawn (serve p m k):=by
 unfold serve;split
 ·trivial
 ·exact au _
 ·simp only[];split
  ·trivial
  ·exact au _
theorem Bz{m m':Machine}{op:TimerOp}{v:Value}(h:timerOp m op=.ok (v,m')):m'.world.drawn=m.world.drawn:=by
 have rt:∀(m:Machine)(k:Nat)(t:Timer)(a b:Nat),(retime m k t a b).2.world.drawn=m.world.drawn:=by
  intro m k t a b;unfold retime drain;grind
 cases op with
 |new t=>
  simp only[timerOp]at h
  repeat' split at h
  all_goals first|(cases h;done)|(cases h;rfl)
 |stop var=>
  simp only[timerOp,timerOp.named]at h;grind
 | reset var a b=>
  simp only[timerOp,timerOp.named,timerOp.opened]at h;split at h
  ·rename_i e;have e2:∀m2:Machine,(if waitedFor m var=true then match Kernel.withPoller m.world.os with| .ok os=>some {m with world:={m.world with os}}| .error _=>none else some m)=some m2→m2.world.drawn=m.world.drawn:=by
    intro m2 e
    repeat' split at e
    all_goals first|(cases e;done)|(cases e;rfl)
   grind
  ·grind
 |deadline a b c d=>simp only[timerOp]at h;cases h;rfl
theorem S8(p:Program)(m:Machine)(i:Nat)(b:Bool):sD m.world.drawn (runT p m i b).1:=by
 unfold runT;simp only[];have h:=PW p (i==0) b (m.gs.swapAt! i {(default:Goroutine)with status:=.finished}).1 m.world;generalize stepG p (i==0) (m.gs.swapAt! i {(default:Goroutine)with status:=.finished}).1 m.world b=s at h ⊢;cases s
 all_goals simp only[]
 all_goals try exact h
 all_goals try trivial
 ·exact sD.trans h (AA ..)
 ·exact Qg trivial h
 ·split
  ·rename_i e;exact bT h (wU (Bz e).symm)
  ·split
   ·rename_i e;cases e;exact h
   ·trivial
  ·trivial
  ·trivial
 ·split
  ·exact h
  ·split
   ·rename_i e;cases e;exact h
   ·trivial
  ·trivial
 ·exact sD.trans h (LW ..)
def Om(n:Nat):Move→Prop
 | .goroutine m _=>n≤m.world.drawn
 | .machine s _=>sD n s
theorem Om.trans{n k:Nat}{s:Move}(h:n≤k)(g:Om k s):Om n s:=by
 cases s with
 |goroutine m i=>exact bT h g
 |machine s o=>exact sD.trans h g
theorem A5(p:Program)(m:Machine):Om m.world.drawn (askOn p m):=by
 have pick:∀(m:Machine)(rs:List Nat),Om m.world.drawn (match(choose (.sched rs.length)).run p m.world with
   | .halt _ w=>.machine (.ended (.stuck "sched" "") w)
   | .ok k world=>
    if rs.length≤1 then .goroutine {m with world} (rs.getD k 0)else
    match(choose (.extern "sched.slice" 65536)).run p world with
    | .halt _ w=>.machine (.ended (.stuck "sched.slice" "") w)
    | .ok n world=>.goroutine {m with world,rest:={m.rest with slice:=if n=0 then none else some (rs.getD k 0,n)}} (rs.getD k 0)):=by
  intro m rs;split
  ·trivial
  ·rename_i w1 e;have h:m.world.drawn≤w1.drawn:=cD e;split
   ·exact h
   ·split
    ·trivial
    ·rename_i e;exact bT h (cD e)
 unfold askOn;simp only[];split
 ·trivial
 ·rename_i k w1 e;have h:m.world.drawn≤w1.drawn:=cD e;clear e;split
  ·exact sD.trans h (Pv p {m with world:=w1} _)
  ·split
   ·split
    ·exact h
    ·split
     ·exact h
     ·split<;>trivial
   ·split
    ·exact Om.trans h (pick {m with world:=w1} _)
    ·split
     ·trivial
     ·rename_i w2 e;exact Om.trans (bT h (cD e)) (pick {m with world:=w2} _)
     ·rename_i e;exact bT h (cD e)
     ·rename_i k2 w2 e;exact Om.trans (bT h (cD e)) (pick (Machine.advanceTo {m with world:=w2} _) _)
theorem L1(p:Program)(m:Machine):Om m.world.drawn (ask p m):=by
 unfold ask;split
 ·split
  ·trivial
  ·rename_i w1 e;have h:m.world.drawn≤w1.drawn:=cD e;have h2:=LW p m.gs m.rest w1;split
   ·rename_i e2;rw[e2]at h2;exact Om.trans (bT h h2) (A5 ..)
   ·exact sD.trans h h2
  ·rename_i w1 _ e;have h:m.world.drawn≤w1.drawn:=cD e;exact Om.trans h (A5 p {m with world:=w1})
 grind[A5]
theorem To(p:Program)(m:Machine):Om m.world.drawn (move p m):=by
 unfold move;split
 ·split
  ·exact au _
  ·trivial
 ·split
  ·split
   ·exact au _
   ·exact L1 p {m with rest:={m.rest with slice:=none}}
  grind[L1]
theorem SR(p:Program)(m:Machine):sD m.world.drawn (step p m):=by
 unfold step stepT;have h:=To p m;split
 ·rename_i e;rw[e]at h;exact sD.trans h (S8 ..)
 ·rename_i e;rw[e]at h;exact h
theorem Kg(p:Program):∀(n:Nat)(m m':Machine),runN p n m=.next m'→m.world.drawn≤m'.world.drawn
 |0,m,m',h=>by cases h;omega
 |n+1,m,m',h=>by
  rw[runN]at h;have h1:=SR p m;split at h
  ·rename_i e;rw[e]at h1;exact bT h1 (Kg p n _ _ h)
  simp_all
theorem PX{p:Program}{m m':Machine}(h:Steps p m m'):m.world.drawn≤m'.world.drawn:=by
 obtain⟨n,h⟩:=h;exact Kg p n m m' h
theorem HC{p:Program}{f:FuncId}{args:Array Value}{w:World}{R:Ending→World→Prop}(h:Calls p f args w R):Calls p f args w fun e w'=>R e w'∧((∃v,e=.returned v)→w.drawn≤w'.drawn):=by
 intro cs;obtain⟨e,w',fr,h1,h2,h3,h4⟩:=h cs;refine⟨e,w',fr,⟨h1,?_⟩,h2,h3,h4⟩
 rintro⟨v,rfl⟩
 exact PX (m:=lone _ cs w) (m':=lone fr cs w') h2
end Go.Ev
namespace Go.Ev
open Go Go.RowKit
section
variable{P:Program}{G:eE}{pl:Pl}{M:dt}{h:AHeap}{w w':World}{f:FuncId}{args:List AV}{v:AV}
theorem cF.below(hr:cF pl M h w)(hb:Below w.heap.size w w'):cF pl M h w':=
 ⟨hr.dom,fun id p o h1 h2=>by rw[hb.block _ (hr.blk id p h1)];exact hr.obj id p o h1 h2,fun id p h1=>E6 (hr.blk id p h1) hb.size,hr.inj,
  fun b c h1=>by rw[hb.block _ (hr.memLt h1)];exact hr.imm b c h1,hr.sep⟩
theorem cT.below(hb:Below w.heap.size w w')(hd:w.drawn≤w'.drawn):cT h pl M w h pl M w':=⟨nJ.refl _,fun _ _ h=>h,fun _ _ h=>h,hb.size,fun b h1 _=>hb.block b h1,fun id p h=>.inl ⟨p,h,rfl⟩,fun _ _ _ h=>h,fun _ _ h _=>h,fun _ _ h=>.inl h,hb.os,hb.tape,hb.output,hd⟩
theorem bW.below(hE:∀vs w,(callFunc f vs).run P w=.ok (.enter f vs) w)
  (hC:∀(pl:Pl)(M:dt)(w:World)(vs:Array Value)(h:AHeap),pe G pl M→cF pl M h w→VRels pl M args vs→∃cv,VRel pl M v cv∧Calls P f vs w fun e w'=>e=.returned cv∧Below w.heap.size w w'):bW P G f args v:=by
 intro h pl M w vs hG hr hv;obtain⟨cv,h1,h2⟩:=hC pl M w vs h hG hr hv;refine .inl ⟨hE _ _,Calls.mono (HC h2) fun e w' ⟨⟨he,hb⟩,hd⟩=>?_⟩;exact⟨cv,v,h,he,⟨rfl,rfl⟩,pl,M,h1,hr.below hb,cT.below hb (hd ⟨_,he⟩),au _⟩
theorem bW.calls(hGT:i7 G)(hE:∀vs w,(callFunc f vs).run P w=.ok (.enter f vs) w)(hp:bW P G f args v)(hG:pe G pl M)(hr:cF pl M h w){vs:Array Value}(hv:VRels (fun _=>none) M args vs):
  Calls P f vs w fun e w'=>(∃cv pl' M',e=.returned cv∧VRel pl' M' v cv)∧Below w.heap.size w w'∧w.drawn≤w'.drawn:=by
 have r0:cF (fun _=>none) M AHeap.none w:=⟨fun _ _ h=>(by grind),fun _ _ _ h _=>(by grind),fun _ _ h=>(by grind),fun _ _ _ _ h _ _=>(by grind),hr.imm,fun _ _ h=>(by grind)⟩
 rcases hp AHeap.none (fun _=>none) M w vs (hG.none hGT) r0 hv with⟨_,h2⟩|⟨cv,w1,v1,h1,e1,_,_⟩
 ·refine Calls.mono h2 fun e w' ⟨cv,v1,h1,he,⟨e1,e2⟩,pl',M',g1,g2,g3,_⟩=>?_
  subst e1;exact⟨⟨cv,pl',M',he,g1⟩,⟨g3.os,g3.tape,g3.out,g3.size,fun b hb=>g3.kept b hb fun id p h=>(by grind)⟩,g3.drawn⟩
 ·grind
end
end Go.Ev
namespace Go.Ev
open Go
def Qu(lo hi:Int)(c:UInt8):Bool:=aj (ao (.ofNat c.toNat) lo||ao hi (.ofNat c.toNat))
abbrev kj:UInt8→Bool:=Qu 48 57
abbrev Xe:UInt8→Bool:=Qu 65 90
def eg(p:UInt8→Bool)(s:aI):Nat:=(s.takeWhile p).length
section
variable{p:UInt8→Bool}{s:aI}
theorem Ki:eg p s≤s.length:=(List.takeWhile_prefix p).length_le
theorem Km:∀{s:aI}{i:Nat},i<eg p s→p (gD s i)=true
 |[],i,h=>by simp_all[eg]
 | c::r,i,h=>by
  cases hc:p c with
  |false=>simp_all[eg]
  |true=>
   cases i with
   |zero=>exact hc
   |succ i=>exact Km (s:=r) (by simp_all[eg])
theorem FD:∀{s:aI},eg p s<s.length→p (gD s (eg p s))=false
 |[],h=>by simp_all
 | c::r,h=>by
  cases hc:p c with
  |false=>simp[eg,hc,gD]
  |true=>
   have h2:eg p r<r.length:=by simp_all[eg]
   have:=FD (s:=r) h2;simp_all[eg,gD]
theorem vb:∀{s:aI},eg p s=s.length↔s.all p=true
 |[]=>by simp[eg]
 |c::r=>by
  have ih:eg p r=r.length↔r.all p=true:=vb;cases hc:p c with
  |false=>simp[eg,hc]
  |true=>simp_all[eg]
end
theorem WH{lo hi:Int}{c:UInt8}(h1:ao hi (.ofNat c.toNat)=true):Qu lo hi c=false:=by grind[Qu]
def kK(s:aI):Bool:=aj (ao (.ofNat (s.take (eg kj s)).length) 1)&&(aj (ao 4 (.ofNat (s.take (eg kj s)).length))&&(aj (al (.ofNat (gD (s.take (eg kj s)) 0).toNat) 48)&&(aj (ao 3 (.ofNat (s.drop (eg kj s)).length))&&(s.drop (eg kj s)).all Xe)))
def rO(s:aI):Bool:=aj (ao (.ofNat s.length) 1)&&(aj (ao 24 (.ofNat s.length))&&s.all (Qu 33 126))
def qq(l:List aI):Bool:=aj (ao 256 (.ofNat l.length))&&l.all rO
theorem DO:({data:=#[]}:ByteArray).data.toList=([]:List UInt8):=rfl
theorem Ry(s:aI):ao (.ofNat s.length) 1=dT s []:=by cases s<;>rfl
def dA{α:Type}(p:α→Bool):List α→Nat→Int
 |[],_=> -1
 |x::r,i=>bif p x then Int.ofNat i else dA p r (i+1)
theorem lq{α:Type}(p:α→Bool):∀(l:List α)(i:Nat),ao (dA p l i) 0=aj (l.any p)
 |[],_=>rfl
 |x::r,i=>by
  unfold dA;rw[List.any_cons];cases h:p x with
  |true=>rfl
  |false=>simp_all[lq]
section
variable{α:Type}{p:α→Bool}{l x r:List α}{w:α}{j:Nat}
theorem ox(h1:l.drop j=x)(h2:x=w::r):l.length-(w::r).length=j∧l.length-r.length=j+1:=by grind
theorem mY(h1:l.drop j=x)(h2:x=w::r)(h3:dA p l 0=dA p (w::r) (l.length-(w::r).length))(h4:p w=true):dA p l 0=Int.ofNat j:=by rw[h3,(ox h1 h2).1,dA,h4];rfl
theorem kY(h1:l.drop j=x)(h2:x=w::r)(h3:dA p l 0=dA p (w::r) (l.length-(w::r).length))(h4:p w=false):dA p l 0=dA p r (l.length-r.length):=by rw[h3,(ox h1 h2).1,(ox h1 h2).2,dA,h4];rfl
end
def nQ(s:PStep):Bool:=al s.kind 0&&dT s.label []
def tw(s:PStep):Bool:=ao 0 s.kind&&(aj (ao 7 s.kind)&&kK s.label)
def Ov:List PStep→Bool
 |[]=>true
 |s::r=>(nQ s||tw s)&&r.all tw
def kn(p:List PStep):Bool:=Ov p&&aj (ao 9 (.ofNat p.length))
def H0(p r:List PStep):Bool:=bif Nat.beq r.length p.length then Ov r else r.all tw
theorem Ow{p:List PStep}:Ov p=H0 p p:=by simp_all[H0]
theorem VV{p:List PStep}:H0 p []=true:=by unfold H0;cases Nat.beq ([]:List PStep).length p.length<;>rfl
theorem EC{p x r:List PStep}{w:PStep}{j:Nat}(h1:p.drop j=x)(h2:x=w::r)(h3:Ov p=H0 p (w::r)):Ov p=((bif al (Int.ofNat j) 0 then(nQ w||tw w)else tw w)&&H0 p r):=by
 obtain⟨e1,e2⟩:=ox h1 h2;have e3:=congrArg List.length (h1.trans h2);simp only[yc,cP]at e1 e2 e3;have f1:Nat.beq r.length p.length=false:=by cases h:Nat.beq r.length p.length with|false=>rfl|true=>grind[Nat.eq_of_beq_eq_true]
 rw[h3];unfold H0;rw[f1];cases j with
 |zero=>
  have f2:Nat.beq (w::r).length p.length=true:=by simp_all
  rw[f2];rfl
 |succ j=>
  have f2:Nat.beq (w::r).length p.length=false:=by cases h:Nat.beq (w::r).length p.length with|false=>rfl|true=>simp_all
  rw[f2];rfl
def c8:Int→aI
 |0=>[98,111,111,107]
 |1=>[112,97,114,116]
 |2=>[115,101,99,116,105,111,110]
 |3=>[112,97,114,97,103,114,97,112,104]
 |4=>[116,97,98,108,101]
 |5=>[114,111,119]
 |6=>[99,101,108,108]
 |7=>[110,111,116,101]
 |_=>[]
def Ij:Int→List Int
 |0=>[1,2]
 |1=>[2]
 |2=>[3,4,7]
 |3=>[3,4,7]
 |4=>[5]
 |5=>[6]
 |_=>[]
def jV(p k:Int):Bool:=(Ij p).any (al k)
theorem I7{k:Int}(h:k<0∨7<k):c8 k=[]:=by
 unfold c8;grind
theorem Ix{k:Int}(h:k<0∨7<k):Ij k=[]:=by
 unfold Ij;grind
end Go.Ev
namespace Go.Ev
open Go Go.RowKit Go.Proofs
structure ClassOf(p:UInt8→Bool)(q:Nat→Bool):Prop where
 low:∀c:UInt8,c.toNat<128→q c.toNat=aj (p c)
 high:∀n,128≤n→q n=true
 none:∀c:UInt8,128≤c.toNat→p c=false
theorem Ub{s:aI}{i:Nat}(h:i<s.length)(h2:i<ByteArray.size ⟨⟨s⟩⟩):(ByteArray.mk ⟨s⟩)[i]'h2=gD s i:=by
 simp[gD,List.getD,lD h];rfl
theorem uj{p:UInt8→Bool}{q:Nat→Bool}(hc:ClassOf p q)(s:aI):∀(f pos:Nat),pos≤eg p s→s.length≤pos+f→Lib.idxFuncFrom q true ⟨⟨s⟩⟩ f pos=(bif Nat.beq (eg p s) s.length then -1 else Int.ofNat (eg p s))
 | f,pos,h1,h2=>by
  have hl:=Ki (p:=p) (s:=s);have hsz:ByteArray.size ⟨⟨s⟩⟩=s.length:=rfl;by_cases he:pos<s.length
  ·cases f with
   |zero=>omega
   | succ f=>
    unfold Lib.idxFuncFrom;rw[hsz,if_pos he];have hb:=Ub he (by rw[hsz];exact he);by_cases hr:pos<eg p s
    ·have hp:=Km hr;have ha:(gD s pos).toNat<128:=by
      rcases fZ (gD s pos).toNat 128 with h|h
      ·exact h
      ·rw[hc.none _ h]at hp;cases hp
     rw[decode_ascii _ pos (by rw[hsz];exact he) (by rw[hb];exact ha),hb];rw[if_neg (by rw[hc.low _ ha,hp];decide)];exact uj hc s f (pos+1) hr (by omega)
    ·have e:eg p s=pos:=by omega
     have hp:=FD (p:=p) (s:=s) (by omega);rw[e]at hp;have hq:q (Utf8.decode ⟨⟨s⟩⟩ pos).1=true:=by
      rcases fZ (gD s pos).toNat 128 with h|h
      ·rw[decode_ascii _ pos (by rw[hsz];exact he) (by rw[hb];exact h),hb,hc.low _ h,hp];rfl
      ·exact hc.high _ (decode_high _ pos (by rw[hsz];exact he) (by rw[hb];exact h)).1
     rw[if_pos hq,e];have f1:Nat.beq pos s.length=false:=by cases h:Nat.beq pos s.length with|false=>rfl|true=>have:=pM h;omega
     rw[f1];rfl
  ·have e:eg p s=s.length:=by omega
   rw[Lib.idxFuncFrom_end _ _ _ _ _ (by rw[hsz];exact he),e,pN];rfl
theorem wT{p:UInt8→Bool}{q:Nat→Bool}(hc:ClassOf p q)(s:aI):Lib.idxFunc q true ⟨⟨s⟩⟩=(bif Nat.beq (eg p s) s.length then -1 else Int.ofNat (eg p s)):=uj hc s _ 0 (bH _) (by show s.length≤0+s.length;omega)
section
variable{P:Program}{G:eE}{f g:FuncId}
theorem Cx{pl:Pl}{M:dt}{w:World}{h:AHeap}(hGT:i7 G)(hg2:∀args w,(callFunc g args).run P w=.ok (.enter g args) w){q:Nat→Bool}{qI:Int→Bool}(hp:∀r:Int,bW P G g [.int .i32 r] (.bool (qI r)))(hq:∀n:Nat,qI (.ofNat n)=q n)
  (hG:pe G pl M)(hr:cF pl M h w):PredGrows P g #[] q w:=by
 intro W x _ hb;refine Calls.mono (bW.calls hGT hg2 (hp (.ofNat x)) hG (hr.below hb) (vs:=#[.int .i32 (.ofNat x)]) ⟨rfl,fun j y hj=>?_⟩) fun e w' ⟨⟨cv,pl',M',he,hv⟩,hb',_⟩=>?_
 ·cases j with
  |zero=>simp at hj;subst hj;exact .int _ _
  |succ j=>simp_all
 grind[cases VRel]
theorem AX(hGT:i7 G)(hE:∀vs w,(callFunc f vs).run P w=.ok (.enter f vs) w)(hg2:∀args w,(callFunc g args).run P w=.ok (.enter g args) w){q:Nat→Bool}{qI:Int→Bool}
  (hC:∀(s:ByteArray)(w:World),PredGrows P g #[] q w→Calls P f #[.string s,.func (.func g) #[] #[]] w fun e w'=>e=.returned (.int .i64 (Lib.idxFunc q true s))∧Below w.heap.size w w')
  (hp:∀r:Int,bW P G g [.int .i32 r] (.bool (qI r)))(hq:∀n:Nat,qI (.ofNat n)=q n){p:UInt8→Bool}(hc:ClassOf p q)(s:aI):
  bW P G f [.str s,.func (.func g) [] []] (.int .i64 (bif Nat.beq (eg p s) s.length then -1 else Int.ofNat (eg p s))):=by
 refine bW.below hE fun pl M w vs h hG hr hv=>?_
 obtain⟨a,b,rfl,hv1,hv2⟩:=A8 hv;have e2:=zW hv2;subst e2;cases hv1
 rw[←wT hc s];exact⟨_,.int _ _,hC ⟨⟨s⟩⟩ w (Cx hGT hg2 hp hq hG hr)⟩
theorem uD(hGT:i7 G)(hE:∀vs w,(callFunc f vs).run P w=.ok (.enter f vs) w)(hg2:∀args w,(callFunc g args).run P w=.ok (.enter g args) w){q:Nat→Bool}{qI:Int→Bool}
  (hC:∀(s:ByteArray)(w:World),PredGrows P g #[] q w→Calls P f #[.string s,.func (.func g) #[] #[]] w fun e w'=>e=.returned (.bool (decide (0≤Lib.idxFunc q true s)))∧Below w.heap.size w w')
  (hp:∀r:Int,bW P G g [.int .i32 r] (.bool (qI r)))(hq:∀n:Nat,qI (.ofNat n)=q n){p:UInt8→Bool}(hc:ClassOf p q)(s:aI):
  bW P G f [.str s,.func (.func g) [] []] (.bool (aj (s.all p))):=by
 refine bW.below hE fun pl M w vs h hG hr hv=>?_
 obtain⟨a,b,rfl,hv1,hv2⟩:=A8 hv;have e2:=zW hv2;subst e2;cases hv1
 have e:aj (s.all p)=decide (0≤Lib.idxFunc q true ⟨⟨s⟩⟩):=by
  rw[wT hc s];cases ha:s.all p with
  |true=>rw[(vb (p:=p)).2 ha,pN];rfl
  | false=>
   have:Nat.beq (eg p s) s.length=false:=by
    cases hb:Nat.beq (eg p s) s.length with
    |false=>rfl
    |true=>grind[vb,Nat.eq_of_beq_eq_true]
   simp_all
 rw[e];exact⟨_,.bool _,hC ⟨⟨s⟩⟩ w (Cx hGT hg2 hp hq hG hr)⟩
end
theorem Hp{lo hi:Nat}(h:hi<128):ClassOf (Qu (Int.ofNat lo) (Int.ofNat hi)) fun n=>ao (Int.ofNat n) (Int.ofNat lo)||ao (Int.ofNat hi) (Int.ofNat n) where
 low c _:=by unfold Qu;simp_all
 high n hn:=by rw[show ao (Int.ofNat hi) (Int.ofNat n)=true from jy (by grind)];simp_all
 none c hn:=WH (jy (by grind))
end Go.Ev
namespace Go.Ev
open Go Go.RowKit
section
variable{P:Program}{G:eE}{f:FuncId}
theorem Iv{pl:Pl}{M:dt}{w:World}{h:AHeap}(hr:cF pl M h w){l:List aI}{a:Addr}{n cap:Nat}(hv:VRel pl M (.ps (l.map m0) false) (.slice (some a) n cap))(hne:l≠[]):
  n=l.length∧n≤cap∧a=⟨a.block,a.off,none⟩∧a.block<w.heap.size∧∀(j:Nat)(x:ByteArray),(l.map fun s=>(⟨⟨s⟩⟩:ByteArray))[j]?=some x→w.cell? ⟨a.block,a.off+j,none⟩=some (.string x):=by
 cases hv with
 | ps hl ht hm hs hc=>
  rename_i sz c;have hne':l.map m0≠[]:=by simp_all
  obtain⟨m1,m2,m3,m4⟩:=hm hne';obtain⟨t,fr,hb⟩:=hr.imm _ _ m2;have hsz:sz=1:=by
   cases l with
   |nil=>simp_all
   |cons s r=>exact((hs (m0 s) (by simp)).1).symm
  subst hsz;refine⟨by simp,hl,by rw[←m1],hr.memLt m2,fun j x hj=>?_⟩;rw[pR]at hj;obtain⟨s,e1,rfl⟩:=E4.1 hj;have hlt:j<l.length:=(gk.1 e1).1;have q:=hc j (m0 s) 0 (.str s) (by simp_all) rfl;rw[Nat.mul_one,pi]at q;have hin:a.off+j<c.size:=by grind
  have e2:c[a.off+j]?=some (c.getD (a.off+j) undef):=by simp_all
  simp only[World.cell?,hb];simp only[Option.isSome_none,gz,if_false];rw[e2];cases hq:c.getD (a.off+j) undef<;>rw[hq]at q<;>cases q
  rfl
theorem Nn(hE:∀vs w,(callFunc f vs).run P w=.ok (.enter f vs) w)
  (hC:∀(bk o c:Nat)(xs:List ByteArray)(sep:ByteArray)(w:World),(∀(j:Nat) x,xs[j]?=some x→w.cell? ⟨bk,o+j,none⟩=some (.string x))→bk<w.heap.size→xs.length≤140737488355328→xs.length≤c→
   (Lib.join (xs.map (·.data.toList)) sep.data.toList).length≤140737488355328→
   Calls P f #[.slice (some ⟨bk,o,none⟩) xs.length c,.string sep] w fun e w'=>e=.returned (.string ⟨(Lib.join (xs.map (·.data.toList)) sep.data.toList).toArray⟩)∧Below w.heap.size w w')
  (hN:∀(a:Option Addr)(c:Nat)(sep:ByteArray)(w:World),Calls P f #[.slice a 0 c,.string sep] w fun e w'=>e=.returned (.string ⟨#[]⟩)∧w'=w)
  (l:List aI)(sep:aI)(h1:l.length≤140737488355328)(h2:(Lib.join l sep).length≤140737488355328):bW P G f [.ls (l.map m0),.str sep] (.str (Lib.join l sep)):=by
 refine bW.below hE fun pl M w vs h hG hr hv=>?_
 obtain⟨a,b,rfl,hv1,hv2⟩:=A8 hv;cases hv2
 have nil (p:Option Addr) (cap:Nat) (hl:l=[]):∃cv,VRel pl M (.str (Lib.join l sep)) cv∧Calls P f #[.slice p 0 cap,.string ⟨⟨sep⟩⟩] w fun e w'=>e=.returned cv∧Below w.heap.size w w':=by
  subst hl;exact⟨.string ⟨⟨[]⟩⟩,.str _,Calls.mono (hN p cap ⟨⟨sep⟩⟩ w) fun e w' ⟨he,hw⟩=>⟨he,hw▸Below.refl _ _⟩⟩
 generalize hx:l.map m0=xs at hv1;cases hv1 with
 |lsn=>simp_all
 | lsp hp ht=>
  subst hx;by_cases hl:l=[]
  ·subst hl;cases hp with
   |ps=>simp_all
  ·have hp':=hp;cases hp with
   |ps=>
    rename_i a cap sz c _ _ _ _ _;obtain⟨e1,e2,e3,e4,e5⟩:=Iv hr hp' hl;have e6:(l.map fun s=>(⟨⟨s⟩⟩:ByteArray)).map (·.data.toList)=l:=by rw[List.map_map];exact List.map_id l
    have:=hC a.block a.off cap (l.map fun s=>⟨⟨s⟩⟩) ⟨⟨sep⟩⟩ w e5 e4 (by grind) (by grind) (by grind);rw[e6,←e3,cJ,←e1]at this;exact⟨.string ⟨⟨Lib.join l sep⟩⟩,.str _,this⟩
theorem FG(hE:∀vs w,(callFunc f vs).run P w=.ok (.enter f vs) w)
  (hC:∀(s:ByteArray)(c:Nat)(w:World),c≤9223372036854775807→s.size*c≤140737488355328→Calls P f #[.string s,.int .i64 c] w fun e w'=>e=.returned (.string ⟨(Lib.repeatL s.data.toList c).toArray⟩)∧Below w.heap.size w w')
  (s:aI)(c:Nat)(h1:c≤9223372036854775807)(h2:s.length*c≤140737488355328):bW P G f [.str s,.int .i64 (.ofNat c)] (.str (Lib.repeatL s c)):=by
 refine bW.below hE fun pl M w vs h hG hr hv=>?_
 obtain⟨a,b,rfl,hv1,hv2⟩:=A8 hv;cases hv1;cases hv2
 exact⟨.string ⟨⟨Lib.repeatL s c⟩⟩,.str _,hC ⟨⟨s⟩⟩ c w h1 h2⟩
theorem MK(hE:∀vs w,(callFunc f vs).run P w=.ok (.enter f vs) w)
  (hC:∀(s cs:ByteArray)(w:World),s.size≤9223372036854775807→cs.size<4294967281→(∀(j:Nat) b,cs.data.toList[j]?=some b→b.toNat<128)→
   Calls P f #[.string s,.string cs] w fun e w'=>e=.returned (.string ⟨(Lib.trimS s.data.toList cs.data.toList).toArray⟩)∧Below w.heap.size w w')
  (s cs:aI)(h1:s.length≤9223372036854775807)(h2:cs.length<4294967281)(h3:∀b,b∈cs→b.toNat<128):bW P G f [.str s,.str cs] (.str (Lib.trimS s cs)):=by
 refine bW.below hE fun pl M w vs h hG hr hv=>?_
 obtain⟨a,b,rfl,hv1,hv2⟩:=A8 hv;cases hv1;cases hv2
 exact⟨.string ⟨⟨Lib.trimS s cs⟩⟩,.str _,hC ⟨⟨s⟩⟩ ⟨⟨cs⟩⟩ w h1 h2 fun j b hj=>h3 b (bi hj)⟩
end
end Go.Ev
namespace Go.Ev
open Go
structure PId where
 a:Int
 i:Int
 n:Int
 deriving Inhabited,DecidableEq
noncomputable def aV(p:PId):AV:=.agg [.int .i64 p.a,.int .i64 p.i,.int .i64 p.n]
theorem Jh(p:PId):(aV p).top=0:=rfl
def bv(u:TUnit):PId:=⟨u.act,u.item,u.n⟩
def bg(p q:PId):Bool:=al p.a q.a&&(al p.i q.i&&al p.n q.n)
theorem ud{p q:PId}(h:bg p q=true):p=q:=by
 unfold bg at h;rw[bq,bq]at h;obtain⟨a,b,c⟩:=p;obtain⟨d,e,g⟩:=q;grind[iX]
theorem kL(p:PId):bg p p=true:=by simp[bg,bY]
abbrev fE(p:PId)(u:TUnit):Bool:=bg (bv u) p
theorem JZ:KeyOf PId true 3 [(0,1),(1,1),(2,1)] aV bg where
 eq a b:=by
  show xu [.int .i64 a.a,.int .i64 a.i,.int .i64 a.n] [.int .i64 b.a,.int .i64 b.i,.int .i64 b.n] [(0,1),(1,1),(2,1)]=_
  simp only[xu,jf,SA,Jc,kh,bg];cases h1:al a.a b.a<;>cases h2:al a.i b.i<;>cases h3:al a.n b.n<;>rfl
 t a b h:=ud h
 refl a:=kL a
 same a:=by simp[aV,mV,jp,jI,kh,bY]
 top a:=rfl
mutual
def nU:TUnit→Nat
 |⟨_,_,_,_,_,_,_,ks⟩=>1+eY ks
def eY:List TUnit→Nat
 |[]=>0
 |k::r=>nU k+eY r
end
mutual
def m5:TUnit→Nat
 |⟨_,_,_,_,_,_,_,ks⟩=>ki ks
def ki:List TUnit→Nat
 |[]=>0
 |k::r=>Nat.max (1+m5 k) (ki r)
end
mutual
def bp:TUnit→List TUnit
 |⟨x1,x2,x3,x4,x5,x6,x7,ks⟩=>⟨x1,x2,x3,x4,x5,x6,x7,ks⟩::dr ks
def dr:List TUnit→List TUnit
 |[]=>[]
 |k::r=>bp k++dr r
end
mutual
def aG(p:PId):TUnit→List TUnit
 |⟨x1,x2,x3,x4,x5,x6,x7,ks⟩=>bif fE p ⟨x1,x2,x3,x4,x5,x6,x7,ks⟩then[⟨x1,x2,x3,x4,x5,x6,x7,ks⟩]else match co p ks with
  |[]=>[]
  |y::t=>⟨x1,x2,x3,x4,x5,x6,x7,ks⟩::y::t
def co(p:PId):List TUnit→List TUnit
 |[]=>[]
 |k::r=>match aG p k with
  |[]=>co p r
  |y::t=>y::t
end
theorem jZ(u:TUnit):nU u=1+eY u.kids:=by cases u;rw[nU];rfl
theorem mW:eY []=0:=by rw[eY]
theorem bh(k:TUnit)(r:List TUnit):eY (k::r)=nU k+eY r:=by rw[eY]
theorem Lt(u:TUnit):m5 u=ki u.kids:=by cases u;rw[m5];rfl
theorem C3:ki []=0:=by rw[ki]
theorem Jn(k:TUnit)(r:List TUnit):ki (k::r)=Nat.max (1+m5 k) (ki r):=by rw[ki]
theorem dw(u:TUnit):bp u=u::dr u.kids:=by cases u;rw[bp];rfl
theorem fN:dr []=[]:=by rw[dr]
theorem bM(k:TUnit)(r:List TUnit):dr (k::r)=bp k++dr r:=by rw[dr]
def dx(u:TUnit):List PId:=(bp u).map bv
def ie(l:List TUnit):List PId:=(dr l).map bv
theorem nb(u:TUnit):dx u=bv u::ie u.kids:=by unfold dx ie;rw[dw];rfl
theorem rv:ie []=[]:=by unfold ie;rw[fN];rfl
theorem gK(k:TUnit)(r:List TUnit):ie (k::r)=dx k++ie r:=by grind[dx,ie,bM]
theorem DF:∀{l:List TUnit}{k:TUnit},k∈l→nU k≤eY l
 |x::r,k,h=>by
  rw[bh];rcases ez.1 h with rfl|h
  ·omega
  ·have:=DF h;omega
theorem iy{u k:TUnit}(h:k∈u.kids):nU k<nU u:=by rw[jZ u];have:=DF h;omega
theorem I0(u:TUnit):0<nU u:=by grind[jZ]
theorem yQ:∀(l:List TUnit),l.length≤eY l
 |[]=>by simp_all
 |k::r=>by
  rw[bh,cP];have:=yQ r;grind[I0]
theorem bf(u:TUnit):u.kids.length<nU u:=by grind[jZ,yQ]
theorem M8{l:List TUnit}(h:∀k,k∈l→(bp k).length=nU k):(dr l).length=eY l:=by
 induction l with
 |nil=>rw[fN,mW];rfl
 |cons k r ih=>grind[bM,bh]
theorem FO:∀(u:TUnit),(bp u).length=nU u:=TUnit.ind fun u ih=>by grind[dw,jZ,M8]
theorem uv(u:TUnit):(dx u).length=nU u:=by grind[dx,FO]
theorem Rh{l:List TUnit}{n:Nat}(h:∀k,k∈l→1+m5 k≤n):ki l≤n:=by
 induction l with
 |nil=>grind[C3]
 |cons k r ih=>grind[Jn]
theorem Ew:∀(u:TUnit),m5 u<nU u:=TUnit.ind fun u ih=>by
 have:ki u.kids≤eY u.kids:=Rh fun k hk=>by have:=ih k hk;have:=DF hk;omega
 grind[Lt,jZ]
section
variable{p:PId}{u w:TUnit}{r:List TUnit}
theorem gx(u:TUnit):aG p u=bif fE p u then[u]else match co p u.kids with|[]=>[]|y::t=>u::y::t:=by cases u;rw[aG];rfl
theorem ku:co p []=[]:=by rw[co]
theorem ot(k:TUnit)(r:List TUnit):co p (k::r)=match aG p k with|[]=>co p r|y::t=>y::t:=by rw[co]
def cq(p:PId)(u:TUnit):Bool:=aj (aG p u).isEmpty
theorem AK(h:cq p u=false):aG p u=[]:=by grind[cq]
theorem vL(h:cq p u=true):∃y t,aG p u=y::t:=by
 unfold cq at h;cases e:aG p u with
 |nil=>grind
 |cons x r=>simp_all
theorem lX(h:cq p u=true):aG p u≠[]:=by grind[vL]
theorem qS(h:fE p u=true):aG p u=[u]:=by rw[gx,h];rfl
theorem EZ(h:fE p u=true):cq p u=true:=by unfold cq;rw[qS h];rfl
theorem iH(h:cq p w=false):co p (w::r)=co p r:=by rw[ot,AK h]
theorem nT(h:cq p w=true):co p (w::r)=aG p w:=by grind[vL,ot]
theorem OR(h:fE p u=false)(h2:co p u.kids=co p []):aG p u=[]:=by rw[gx,h,h2,ku];rfl
theorem GB(h:fE p u=false)(h2:co p u.kids=co p []):cq p u=false:=by unfold cq;rw[OR h h2];rfl
theorem J1(h:fE p u=false)(h2:co p u.kids=co p (w::r))(h3:cq p w=true):aG p u=u::aG p w:=by grind[gx,nT,vL]
theorem Uj(h:fE p u=false)(h2:co p u.kids=co p (w::r))(h3:cq p w=true):cq p u=true:=by unfold cq;rw[J1 h h2 h3];rfl
end
theorem mZ{p:PId}:∀(u:TUnit),(aG p u).length≤nU u:=TUnit.ind fun u ih=>by
 rw[gx];cases fE p u with
 |true=>exact I0 u
 | false=>
  have key:∀(r:List TUnit),(∀k,k∈r→k∈u.kids)→(co p r).length≤eY r:=by
   intro r;induction r with
   |nil=>grind[ku]
   |cons k r ihr=>grind[ot,bh]
  grind[jZ]
def bd:TUnit:=⟨0,0,0,0,[],[],[],[]⟩
noncomputable def ei(p:PId)(u:TUnit):TUnit:=bif cq p u then gD (aG p u) ((aG p u).length -1)else bd
theorem J3{p:PId}:∀(u:TUnit)(x:TUnit),x∈aG p u→x∈bp u:=TUnit.ind fun u ih=>by
 intro x hx;rw[gx]at hx;rw[dw];cases h:fE p u with
 |true=>simp_all
 | false=>
  rw[h]at hx;simp only[cond_false]at hx;have key:∀(r:List TUnit),(∀k,k∈r→k∈u.kids)→∀x,x∈co p r→x∈dr r:=by
   intro r;induction r with
   |nil=>grind[ku]
   |cons k r ihr=>grind[ot,bM]
  grind
noncomputable def pp(p:Int×aI):AV:=.agg [.int .i64 p.1,.str p.2]
def mR(a b:Int×aI):Bool:=al a.1 b.1&&dT a.2 b.2
theorem qu:∀(s:aI),dT s s=true
 |[]=>rfl
 |c::r=>by simp only[dT,qu r,Bool.and_true];simp_all
theorem HK:∀{a b:aI},dT a b=true→a=b
 |[],[],_=>rfl
 |c::r,d::q,h=>by
  simp only[dT,bq]at h;rw[HK h.2,UInt8.toNat_inj.1 (pM h.1)]
theorem Lw:KeyOf (Int×aI) true 2 [(0,1),(1,2)] pp mR where
 eq a b:=by
  show xu [.int .i64 a.1,.str a.2] [.int .i64 b.1,.str b.2] [(0,1),(1,2)]=_
  simp only[xu,jf,SA,Jc,kh,mR];cases h1:al a.1 b.1<;>cases h2:dT a.2 b.2<;>rfl
 t a b h:=by
  simp only[mR,bq]at h;grind[iX,HK]
 refl a:=by simp[mR,bY,qu]
 same a:=by simp[pp,mV,jp,jI,kh,bY,qu]
 top a:=rfl
noncomputable def dj(b:Bool):AV:=.bool b
theorem Ai(b:Bool):(dj b).top=0:=rfl
def On{K:Type}(keq:K→K→Bool)(k:K)(l:List (K×Bool)):Bool:=(nL keq k l).getD false
section
variable{K:Type}{ag:Bool}{sz:Nat}{lv:List (Nat×Nat)}{kenc:K→AV}{keq:K→K→Bool}
theorem GY(hk:KeyOf K ag sz lv kenc keq)(m:List (K×Bool))(k:K):dV (some (.bool false)) false (bX ag sz lv (kenc k) (cQ kenc dj m 0) 0)=some (.bool (On keq k m)):=by
 rw[zD hk];unfold On;cases nL keq k m with
 |none=>rfl
 |some v=>rfl
theorem J4(hk:KeyOf K ag sz lv kenc keq)(m:List (K×Bool))(k:K):oB (cQ kenc dj m 0) m.length (kenc k) (.bool true) (bX ag sz lv (kenc k) (cQ kenc dj m 0) 0)=some (cQ kenc dj (ft keq k true m) 0,(ft keq k true m).length):=B7 (f:=dj) hk k true m
end
def oh(l:List PWord):Bool:=aj (ao 256 (.ofNat l.length))&&qq (l.map fun w=>w.text)
def mL(pk:Int):List TUnit→List ((Int×aI)×Bool)→Bool
 |[],_=>true
 |k::r,m=>jV pk k.kind&&(aj (On mR (k.kind,k.label) m)&&mL pk r (ft mR (k.kind,k.label) true m))
def l0(u:TUnit):Bool:=(bif al u.kind 0 then dT u.label []&&aj (ao 0 (.ofNat (u.head.length+u.words.length)))else aj (dT (c8 u.kind) [])&&(kK u.label&&(oh u.head&&oh u.words)))&&(mL u.kind u.kids []&&aj (ao 64 (.ofNat u.kids.length)))
def wX(q:TUnit→Bool)(u:TUnit):Bool:=(bp u).all q
theorem yw(q:TUnit→Bool)(u:TUnit):wX q u=(q u&&(dr u.kids).all q):=by grind[wX,dw]
theorem Oj(q:TUnit→Bool):(dr []).all q=true:=by rw[fN];rfl
theorem BX(q:TUnit→Bool)(k:TUnit)(r:List TUnit):(dr (k::r)).all q=(wX q k&&(dr r).all q):=by rw[bM,List.all_append];rfl
def CK(l:List PId)(m:List (PId×Bool)):List (PId×Bool):=l.foldl (fun m p=>ft bg p true m) m
def bR:PId:=⟨0,0,0⟩
def QG(u:TUnit):Bool:=(On bg bR (CK (dx u) [])&&al (.ofNat (CK (dx u) []).length) 1)||(al (.ofNat (CK (dx u) []).length) (.ofNat (dx u).length)&&(al u.kind 0==fE bR u))
def kB(u:TUnit):Bool:=wX l0 u&&(aj (ao 8 (.ofNat (m5 u)))&&(aj (ao 1024 (.ofNat (nU u)))&&QG u))
theorem bA{u k:TUnit}(h:k∈u.kids){x:TUnit}(hx:x∈bp k):x∈bp u:=by
 rw[dw];refine eJ _ ?_;generalize u.kids=l at h;induction l with
 |nil=>grind
 |cons y r ih=>grind[bM]
theorem dq(u:TUnit):u∈bp u:=by grind[dw]
theorem Lk{u k:TUnit}(h:k∈u.kids):k∈bp u:=bA h (dq k)
end Go.Ev
namespace Go.Ev
open Go
def cW{α:Type}(q:α→α→Bool):List α→List α→Bool
 |[],[]=>true
 |x::l,y::m=>q x y&&cW q l m
 |_,_=>false
theorem lk{α:Type}{q:α→α→Bool}:∀{l m:List α},l.length≠m.length→cW q l m=false
 |[],[],h=>absurd rfl h
 |[],y::m,_=>rfl
 |x::l,[],_=>rfl
 |x::l,y::m,h=>by
  unfold cW;rw[lk (l:=l) (m:=m) (fun e=>h (by simp[e]))];exact wj _
theorem HJ{α:Type}{q:α→α→Bool}(hq:∀a b,q a b=true↔a=b):∀{l m:List α},cW q l m=true↔l=m
 |[],[]=>by simp[cW]
 |[],y::m=>by simp[cW]
 |x::l,[]=>by simp[cW]
 |x::l,y::m=>by simp[cW,hq,HJ hq (l:=l) (m:=m)]
section
variable{α:Type}[Inhabited α]{q:α→α→Bool}{l m x r:List α}{w:α}{j:Nat}
omit [Inhabited α]in
theorem Ad:cW q l m=cW q l (m.drop (l.length-l.length)):=by simp_all
theorem yz{m:List α}{j:Nat}(h:j<m.length):m.drop j=gD m j::m.drop (j+1):=by grind[List.drop_eq_getElem_cons,gD]
theorem ig(h1:l.drop j=x)(h2:x=w::r)(hl:l.length=m.length)(h3:cW q l m=cW q (w::r) (m.drop (l.length-(w::r).length))):cW q l m=(q w (gD m j)&&cW q r (m.drop (l.length-r.length))):=by
 have e:=congrArg List.length (h1.trans h2);simp only[yc,cP]at e;rw[h3,(ox h1 h2).1,(ox h1 h2).2,yz (by omega),cW]
omit [Inhabited α]in
theorem mT(hl:l.length=m.length)(h3:cW q l m=cW q [] (m.drop (l.length-([]:List α).length))):cW q l m=true:=by rw[h3,gn,Nat.sub_zero,hl,List.drop_length];rfl
end
def BU(a b:PWord):Bool:=dT a.text b.text&&(al a.act b.act&&(al a.item b.item&&al a.at_ b.at_))
theorem Un(a b:PWord):BU a b=true↔a=b:=by
 obtain⟨t,x,y,z⟩:=a;obtain⟨t',x',y',z'⟩:=b;simp only[BU,bq,PWord.mk.injEq];constructor
 ·grind[HK,iX]
 ·grind[qu,bY]
mutual
def lP:TUnit→TUnit→Bool
 |⟨a,i,n,k,l,h,w,ks⟩,v=>bg ⟨a,i,n⟩ (bv v)&&(al k v.kind&&(dT l v.label&&(cW BU h v.head&&(cW BU w v.words&&NR ks v.kids))))
def NR:List TUnit→List TUnit→Bool
 |[],[]=>true
 |k::r,[]=>false
 |k::r,x::s=>lP k x&&NR r s
 |[],x::s=>false
end
theorem Jb(u v:TUnit):lP u v=(bg (bv u) (bv v)&&(al u.kind v.kind&&(dT u.label v.label&&(cW BU u.head v.head&&(cW BU u.words v.words&&cW lP u.kids v.kids))))):=by
 have key:∀(l m:List TUnit),NR l m=cW lP l m:=by
  intro l;induction l with
  |nil=>intro m;cases m<;>(rw[NR];rfl)
  |cons x l ih=>intro m;cases m with|nil=>rw[NR];rfl|cons y m=>rw[NR,ih];rfl
 cases u
 rw[lP,key];rfl
theorem uc:∀(u v:TUnit),lP u v=true↔u=v:=TUnit.ind fun u ih=>by
 have key:∀(l:List TUnit),(∀k,k∈l→k∈u.kids)→∀m,cW lP l m=true↔l=m:=by
  intro l;induction l with
  |nil=>grind[cW]
  |cons x l ihl=>
   intro hm m;cases m with
   |nil=>simp[cW]
   |cons y m=>grind[cW]
 intro v;rw[Jb];simp only[bq,key u.kids (fun _ h=>h),HJ Un];obtain⟨a,i,n,k,l,h,w,ks⟩:=u;obtain⟨a',i',n',k',l',h',w',ks'⟩:=v;simp only[TUnit.mk.injEq,bv,TUnit.act,TUnit.item,TUnit.n,TUnit.kind,TUnit.label,TUnit.head,TUnit.words,TUnit.kids];constructor
 ·grind[ud,iX,HK]
 ·rintro⟨rfl,rfl,rfl,rfl,rfl,rfl,rfl,rfl⟩
  exact⟨kL _,bY _,qu _,rfl,rfl,rfl⟩
end Go.Ev
namespace Go.Ev
open Go
def IQ(u v:AV):Prop:=(Sc v→Sc u)∧Les u.cells v.cells
theorem IQ.refl(v:AV):IQ v v:=⟨id,Les.refl _⟩
theorem IQ.one{u v:AV}(hu:u.cells=[u])(hv:v.cells=[v])(hs:cH u=true)(h:Le u v):IQ u v:=⟨fun _ y hy=>by simp_all,by rw[hu,hv];exact .cons h .nil⟩
inductive LesC:List AV→List AV→Prop
 |nil:LesC [] []
 |cons {u v:AV} {us vs:List AV} (h:IQ u v) (k:LesC us vs):LesC (u::us) (v::vs)
theorem LesC.len{us vs:List AV}(h:LesC us vs):us.length=vs.length:=by
 induction h with
 |nil=>rfl
 |cons _ _ ih=>simp_all
theorem LesC.at_{us vs:List AV}(h:LesC us vs):∀(j:Nat)(u:AV),us[j]?=some u→∃v,vs[j]?=some v∧IQ u v:=by
 induction h with
 |nil=>simp_all
 |cons h k ih=>grind
theorem EL{xs ys:List AV}{t:Bool}(h:LesC xs ys):Le (.ps xs false) (.ps ys t):=fun pl M v hv=>by
 cases hv with
 | @ps _ _ a cap sz c hl ht hm hs hc=>
  rw[←h.len];refine .ps (sz:=sz) (c:=c) (by rw[h.len];omega) (fun h=>by grind) (fun hx=>?_) (fun x hx=>?_) fun i x j y hx hy=>?_
  ·have:ys≠[]:=fun e=>hx (rN (by rw[h.len,e];rfl))
   rw[h.len];simp_all
  ·obtain⟨i,hi⟩:=BO hx;obtain⟨y,h1,h2,h3⟩:=h.at_ i x hi;have:=hs y (bi h1);exact⟨h3.len.trans this.1,h2 this.2⟩
  ·obtain⟨z,h1,_,h3⟩:=h.at_ i x hx;obtain⟨d,h4,h5⟩:=h3.at_ j y hy;exact h5 _ _ _ (hc i z j d h1 h4)
theorem XE{xs ys:List AV}{t:Bool}(h:LesC xs ys)(h0:aq xs=0):Le (.ls xs) (.ps ys t):=fun pl M v hv=>.lsp (EL h pl M v hv) h0
theorem XF{xs ys:List AV}(h:LesC xs ys)(h0:aq xs=0):Le (.ls xs) (.ls ys):=fun pl M v hv=>by
 cases hv with
 |lsn=>cases h;exact .lsn
 |lsp hv _=>exact .lsp (EL h pl M v hv) h0
theorem Le.pls{x:AV}{xs ys:List AV}(h:LesC (x::xs) ys):Le (.ps (x::xs) false) (.ls ys):=fun pl M v hv=>by
 cases hv with
 |lsn=>cases h
 |lsp hv _=>exact EL h pl M v hv
mutual
def ET:AV→AV→Bool
 | .ls xs,.nils=>xs.isEmpty
 | .ls xs,.ps ys _=>nl xs ys&&Nat.beq (aq xs) 0
 | .ls xs,.ls ys=>nl xs ys&&Nat.beq (aq xs) 0
 | .ps (x::xs) false,.ls ys=>nl (x::xs) ys
 | .ps xs false,.ps ys _=>nl xs ys
 | .agg us,.agg vs=>nl us vs&&us.all cH
 |u,v=>AV.same u v
def nl:List AV→List AV→Bool
 |[],[]=>true
 |a::us,b::vs=>ET a b&&nl us vs
 |_,_=>false
end
theorem IQ.same{u v:AV}(h:AV.same u v=true):Le u v∧IQ u v:=by grind[AV.same_eq,Le.refl,IQ.refl]
mutual
theorem wJ:∀(u v:AV),ET u v=true→Le u v∧IQ u v:=fun u v h=>by
 unfold ET at h;split at h
 ·rename_i xs;have e:xs=[]:=by simp_all
  subst e;exact⟨Le.nils,IQ.one rfl rfl rfl Le.nils⟩
 ·rename_i xs ys t;have h:=pg.1 h;have k:=XE (t:=t) (kR xs ys h.1).2 (pM h.2);exact⟨k,IQ.one rfl rfl rfl k⟩
 ·rename_i xs ys;have h:=pg.1 h;have k:=XF (kR xs ys h.1).2 (pM h.2);exact⟨k,IQ.one rfl rfl rfl k⟩
 ·rename_i x xs ys;have k:=Le.pls (kR (x::xs) ys h).2;exact⟨k,IQ.one rfl rfl rfl k⟩
 ·rename_i xs ys t;have k:=EL (t:=t) (kR xs ys h).2;exact⟨k,IQ.one rfl rfl rfl k⟩
 ·rename_i us vs;have h:=pg.1 h;have k:=kR us vs h.1;exact⟨bQ k.1 h.2,fun _ y hy=>l9.1 h.2 y hy,k.1⟩
 ·exact IQ.same h
theorem kR:∀(us vs:List AV),nl us vs=true→Les us vs∧LesC us vs:=fun us vs h=>by
 unfold nl at h;split at h
 ·exact⟨.nil,.nil⟩
 ·rename_i a us b vs;have h:=pg.1 h;have h1:=wJ a b h.1;have h2:=kR us vs h.2;exact⟨.cons h1.1 h2.1,.cons h1.2 h2.2⟩
 ·grind
end
section
variable{P:Program}{G:eE}{f:FuncId}{a b:List AV}{u v:AV}
theorem bW.args(h:bW P G f a v)(hl:Les a b):bW P G f b v:=fun hp pl M w vs hg hr hv=>h hp pl M w vs hg hr (hv.le hl)
theorem bW.lessB(h:bW P G f a v)(hl:ET u v=true):bW P G f a u:=h.less (wJ _ _ hl).1
theorem Wy(a b:Nat):Cm (.ofNat a) (.ofNat b)=.ofNat (Nat.max a b):=by
 unfold Cm;cases h:ao (.ofNat a) (.ofNat b)with
 |true=>
  have h:=am h;grind
 |false=>
  have h:=aB h;simp_all
theorem mP{xs ys:List AV}{i t:Nat}{r:List (Nat×Nat)}{x y:AV}{e c:Bool}(hx:jf xs i=some x)(hy:jf ys i=some y)(h:Jc t x y=some e)(k:xu xs ys r=some c):xu xs ys ((i,t)::r)=some (e&&c):=by
 simp only[xu,hx,hy,SA,h];cases e with
 |true=>exact k
 |false=>rfl
theorem Ac{xs ys:List AV}{i t:Nat}{r:List (Nat×Nat)}{x y:AV}{e:Bool}(hx:jf xs i=some x)(hy:jf ys i=some y)(h:Jc t x y=some e)(k:xu xs ys r=some true):xu xs ys ((i,t)::r)=some e:=by
 simp only[xu,hx,hy,SA,h];cases e with
 |true=>exact k
 |false=>rfl
theorem EB{d:Option TypeDesc}{n:Nat}{l:List (Nat×Nat)}{xs ys:List AV}{c:Bool}{H:AHeap}(hn:(Nat.beq xs.length n&&Nat.beq ys.length n)=true)(hl:xu xs ys l=some c):
  ba H (SH (pF .eql d (some true) (some n) (some l)) (some (.agg xs)) (some (.agg ys)))=some (.val (.bool c) H):=by
 grind[SH,pF,XJ,oP,ba]
theorem yy{d:Option TypeDesc}{n:Nat}{l:List (Nat×Nat)}{xs ys:List AV}{c:Bool}{H:AHeap}(hn:(Nat.beq xs.length n&&Nat.beq ys.length n)=true)(hl:xu xs ys l=some c):
  ba H (SH (pF .neq d (some true) (some n) (some l)) (some (.agg xs)) (some (.agg ys)))=some (.val (.bool (!c)) H):=by
 grind[SH,pF,XJ,oP,ba]
end
end Go.Ev
namespace Go.Ev
open Go
theorem bW.ls0{P:Program}{G:eE}{f:FuncId}{r:List AV}{v:AV}(h1:bW P G f (.nils::r) v)(h2:bW P G f (.ps [] false::r) v):bW P G f (.ls []::r) v:=fun h=>EO (fun _ _ _ hv=>VRels.first hv fun _ hv=>hv.ls0) (h1 h) (h2 h)
theorem RW{p:PId}{u:TUnit}(h:cq p u=true):ei p u∈aG p u:=by
 unfold ei;rw[h];have:=pP.2 (lX h);grind[gV]
theorem Sd:∀(u:TUnit),m8 u=(bp u).flatMap nY:=by
 refine TUnit.ind fun u ih=>?_
 rw[L5,dw,List.flatMap_cons];congr 1;have key:∀(l:List TUnit),(∀k,k∈l→k∈u.kids)→km l=(dr l).flatMap nY:=by
  intro l;induction l with
  |nil=>intro _;rw[Dx,fN];rfl
  |cons k r ihr=>grind[tQ,bM]
 simp_all
theorem OS{p:PId}:∀(u:TUnit),cq p u=true→bv (ei p u)=p:=by
 refine TUnit.ind fun u ih h=>?_
 unfold ei;rw[h];simp only[cond_true];cases hh:fE p u with
 |true=>rw[qS hh];exact ud hh
 | false=>
  have key:∀(r:List TUnit),(∀k,k∈r→k∈u.kids)→co p r≠[]→bv (gD (co p r) ((co p r).length -1))=p:=by
   intro r;induction r with
   |nil=>grind[ku]
   |cons k r ihr=>grind[nT,ei,iH]
  have k2:=key u.kids fun _ h=>h
  obtain⟨y,t,e⟩:=vL h;rw[gx,hh]at e ⊢;grind[gD]
theorem Lg{p:PId}:∀(u:TUnit),(∃x,x∈bp u∧bv x=p)→cq p u=true:=by
 refine TUnit.ind fun u ih ⟨x,hx,hp⟩=>?_
 cases hh:fE p u with
 |true=>grind[EZ]
 | false=>
  rw[dw]at hx;rcases ez.1 hx with rfl|hx
  ·simp_all[fE,kL]
  ·have key:∀(l:List TUnit),(∀k,k∈l→k∈u.kids)→x∈dr l→co p l≠[]:=by
    intro l;induction l with
    |nil=>grind[fN]
    |cons k r ihr=>grind[bM,cq,nT,iH]
   grind[cq,gx]
theorem Ci{α β:Type}{f:α→β}:∀{l:List α},(l.map f).Nodup→∀{x y:α},x∈l→y∈l→f x=f y→x=y
 | a::l,h,x,y,hx,hy,e=>by
  rw[eF,List.nodup_cons]at h;rcases ez.1 hx with h1|h1
  ·grind
  ·rcases ez.1 hy with h2|h2
   ·simp_all
   ·exact Ci h.2 h1 h2 e
theorem C0{K V:Type}{kenc:K→AV}{f:V→AV}:∀(l:List (K×V))(i:Nat),(cQ kenc f l i).length=l.length
 |[],_=>rfl
 |(k,v)::r,i=>by rw[cQ,cP,C0 r,cP]
theorem ME(m:List (PId×Bool)):CK [] m=m:=rfl
theorem Rv{n:Nat}(h:0<n):al (Int.ofNat n) 0=false:=by grind[rf]
def CM(p:PId):TUnit→Option TUnit:=fun u=>(bp u).find? (fE p)
theorem SE{p:PId}:∀(u:TUnit),(cq p u=true→CM p u=some (ei p u))∧(cq p u=false→CM p u=none):=by
 refine TUnit.ind fun u ih=>?_
 unfold CM;rw[dw];cases hh:fE p u with
 |true=>
  rw[List.find?_cons_of_pos (by omega)];refine⟨fun h=>?_,fun h=>by grind[EZ]⟩;unfold ei;rw[h,qS hh];rfl
 | false=>
  rw[List.find?_cons_of_neg (by simp_all)];have key:∀(r:List TUnit),(∀k,k∈r→k∈u.kids)→(co p r≠[]→(dr r).find? (fE p)=some (gD (co p r) ((co p r).length -1)))∧(co p r=[]→(dr r).find? (fE p)=none):=by
   intro r;induction r with
   |nil=>grind[ku,fN]
   |cons k r ihr=>
    intro hm;have ik:=ih k (hm k (eW ..));have ir:=ihr fun z hz=>hm z (eJ _ hz)
    rw[bM,List.find?_append];cases hk:cq p k with
    |true=>grind[CM,nT,lX,ei]
    |false=>grind[CM,iH]
  have k2:=key u.kids fun _ h=>h
  refine⟨fun h=>?_,fun h=>?_⟩
  ·obtain⟨y,t,e⟩:=vL h;unfold ei;rw[h,gx,hh];rw[gx,hh]at e;grind[gD]
  ·have e:=AK h;grind[gx]
theorem gc(p:PId)(u:TUnit):fE p u=true↔bv u=p:=⟨ud,fun h=>by simp_all[fE,kL]⟩
theorem IC{y x:TUnit}:∀(u:TUnit),y∈bp u→x∈bp y→x∈bp u:=by
 refine TUnit.ind fun u ih h hx=>?_
 rw[dw]at h ⊢;rcases ez.1 h with rfl|h
 ·grind[dw]
 ·refine eJ _ ?_;have key:∀(l:List TUnit),(∀k,k∈l→k∈u.kids)→y∈dr l→x∈dr l:=by
   intro l;induction l with
   |nil=>grind[fN]
   |cons k r ihr=>grind[bM]
  simp_all
theorem iM{y x u:TUnit}(h:y∈bp u)(hx:x∈bp y):x∈bp u:=IC u h hx
theorem Pr{x:TUnit}:∀(u:TUnit),x∈bp u→nU x≤nU u:=by
 refine TUnit.ind fun u ih h=>?_
 rw[dw]at h;rcases ez.1 h with rfl|h
 ·omega
 ·have key:∀(l:List TUnit),(∀k,k∈l→k∈u.kids)→x∈dr l→nU x<nU u:=by
   intro l;induction l with
   |nil=>grind[fN]
   |cons k r ihr=>grind[bM,Nat.lt_of_le_of_lt,iy]
  grind
theorem dM{x u:TUnit}(h:x∈bp u):nU x≤nU u:=Pr u h
section
variable{p:PId}{u w:TUnit}{r:List TUnit}
end
end Go.Ev
namespace Go.Ev
open Go
def kq(a b:PStep):Bool:=al a.kind b.kind&&dT a.label b.label
mutual
def EU:PItem→PItem→Bool
 |⟨k,a,t,w,n,u,o,ne,l,f,s,ac,im,d,e,bs⟩,v=>
  (al k v.kind&&(al w v.where_&&(al n v.nth_&&(al ac v.act&&(al im v.item&&al d v.day)))))
  &&((dT l v.label&&(dT f v.for_&&(dT e v.event&&(al s.kind v.start.kind&&(al s.day v.start.day&&dT s.event v.start.event)))))
  &&((cW kq a v.at_&&(cW kq t v.to&&(cW dT o v.old&&cW dT ne v.new)))
  &&(lP u v.unit&&CR bs v.by_)))
def CR:List PItem→List PItem→Bool
 |[],[]=>true
 |k::r,[]=>false
 |k::r,x::s=>EU k x&&CR r s
 |[],x::s=>false
end
theorem Rw:∀(l m:List PItem),CR l m=cW EU l m:=by
 intro l;induction l with
 |nil=>intro m;cases m<;>(rw[CR];rfl)
 |cons x l ih=>intro m;cases m with|nil=>rw[CR];rfl|cons y m=>rw[CR,ih];rfl
theorem Uo(u v:PItem):EU u v=((al u.kind v.kind&&(al u.where_ v.where_&&(al u.nth_ v.nth_&&(al u.act v.act&&(al u.item v.item&&al u.day v.day)))))
  &&((dT u.label v.label&&(dT u.for_ v.for_&&(dT u.event v.event&&(al u.start.kind v.start.kind&&(al u.start.day v.start.day&&dT u.start.event v.start.event)))))
  &&((cW kq u.at_ v.at_&&(cW kq u.to v.to&&(cW dT u.old v.old&&cW dT u.new v.new)))
  &&(lP u.unit v.unit&&cW EU u.by_ v.by_)))):=by
 cases u
 rw[EU,Rw];rfl
noncomputable def DD(s:aI):Bool:=aj (ao (.ofNat s.length) 1)&&(aj (ao 16 (.ofNat s.length))&&(aj (ao (.ofNat (gD s 0).toNat) 97)&&(aj (ao 122 (.ofNat (gD s 0).toNat))&&dT (Lib.trimS s [97,98,99,100,101,102,103,104,105,106,107,108,109,110,111,112,113,114,115,116,117,118,119,120,121,122,48,49,50,51,52,53,54,55,56,57,45]) [])))
def rn(n:Bool)(s:PStart):Bool:=bif al s.kind 0||al s.kind 2 then al s.day 0&&dT s.event []else bif al s.kind 1 then(aj (ao s.day 0)&&aj (ao 1048576 s.day))&&dT s.event []else bif al s.kind 3 then al s.day 0&&n else false
end Go.Ev
namespace Go.Ev
open Go
def bC(s:PStep)(u:TUnit):Bool:=al u.kind s.kind&&dT u.label s.label
def gw:List PStep→List TUnit→List TUnit
 |[],l=>l
 |s::r,l=>gw r (l.flatMap fun x=>x.kids.filter (bC s))
def dS(u:TUnit)(p:List PStep):List TUnit:=bif kn p then(match p with
 |[]=>[u]
 |s::r=>gw r (bif nQ s then[u]else(bp u).filter (bC s)))else[]
noncomputable def aF(u:TUnit)(p:List PStep):PId×Int:=match dS u p with
 |[]=>(bR,7)
 |[x]=>(bv x,0)
 |_=>(bR,8)
def iZ(p:PId)(u:TUnit):Bool:=aj (ao (.ofNat (aG p u).length) 2)
noncomputable def Iz(p:PId)(u:TUnit):TUnit:=gD (aG p u) ((aG p u).length -2)
noncomputable def so(p:PId)(u:TUnit):PId:=bif iZ p u then bv (Iz p u)else bR
noncomputable def qj(p:PId)(u:TUnit):Int:=bif iZ p u then dA (cq p) (Iz p u).kids 0 else -1
def pG(p:PId)(u:TUnit):List PId:=(((aG p u).take ((aG p u).length -1)).map bv).reverse
structure PSpot where
 id:PId
 at_:Int
 deriving Inhabited
noncomputable def fz(s:PSpot):AV:=.agg [.int .i64 s.id.a,.int .i64 s.id.i,.int .i64 s.id.n,.int .i64 s.at_]
def dG:PSpot:=⟨bR,0⟩
noncomputable def ni(u:TUnit)(p:PId)(n:Int):PSpot×Int:=bif iZ p u then(⟨so p u,qj p u+n⟩,0)else(dG,9)
noncomputable def da(w:Int)(u:TUnit)(p:PId):PSpot×Int:=bif al w 0 then(⟨p,0⟩,0)else bif al w 1 then(⟨p,.ofNat (ei p u).kids.length⟩,0)else bif al w 2 then ni u p 1 else ni u p 0
def io(n:Int):Bool:=aj (ao n 0)&&aj (ao 3 n)
def cA(act item:Int):List aI→Nat→List PWord
 |[],_=>[]
 |s::r,n=>⟨s,act,item,.ofNat n⟩::cA act item r (n+1)
def b6(l:List PWord):List aI:=l.map fun w=>w.text
theorem fO(a i:Int):∀(l:List aI)(n:Nat),(cA a i l n).length=l.length
 |[],_=>rfl
 |s::r,n=>by rw[cA,cP,fO a i r,cP]
mutual
def cR(a i:Int):TUnit→Nat→Nat→TUnit
 |⟨_,_,_,k,l,h,ws,ks⟩,n,w=>⟨a,i,.ofNat (n+1),k,l,cA a i (b6 h) w,cA a i (b6 ws) (w+h.length),fV a i ks (n+1) (w+h.length+ws.length)⟩
def fV(a i:Int):List TUnit→Nat→Nat→List TUnit
 |[],_,_=>[]
 |k::r,n,w=>cR a i k n w::fV a i r (n+nU k) (w+(m8 k).length)
end
theorem CW(a i:Int)(u:TUnit)(n w:Nat):cR a i u n w=⟨a,i,.ofNat (n+1),u.kind,u.label,cA a i (b6 u.head) w,cA a i (b6 u.words) (w+u.head.length),fV a i u.kids (n+1) (w+u.head.length+u.words.length)⟩:=by cases u;rw[cR];rfl
theorem Fy(a i:Int)(n w:Nat):fV a i [] n w=[]:=by rw[fV]
theorem Db(a i:Int)(k:TUnit)(r:List TUnit)(n w:Nat):fV a i (k::r) n w=cR a i k n w::fV a i r (n+nU k) (w+(m8 k).length):=by rw[fV]
def vp(part:List aI):Nat→List aI→Nat→List Nat
 |0,_,_=>[]
 |f+1,l,i=>bif Nat.ble (i+part.length) l.length then(bif cW dT ((l.drop i).take part.length) part then i::vp part f l (i+part.length)else vp part f l (i+1))else[]
def uQ(l part:List aI):List Nat:=bif part.isEmpty then[]else vp part (l.length+1) l 0
end Go.Ev
namespace Go.Ev
open Go
def o4(w:PWord):Bool:=aj (al w.act 0&&(al w.item 0&&al w.at_ 0))
def DY(x:TUnit):Bool:=fE bR x&&(aj (x.head.any o4)&&aj (x.words.any o4))
def HM(u:TUnit):Bool:=kB u&&wX DY u
def gF(w:PWord):PWord:=⟨w.text,0,0,0⟩
mutual
def cG:TUnit→TUnit
 |⟨_,_,_,k,l,h,w,ks⟩=>⟨0,0,0,k,l,h.map gF,w.map gF,tj ks⟩
def tj:List TUnit→List TUnit
 |[]=>[]
 |k::r=>cG k::tj r
end
theorem yE:∀(l:List TUnit),tj l=l.map cG
 |[]=>by rw[tj];rfl
 |k::r=>by rw[tj,yE r];rfl
theorem mz(u:TUnit):cG u=⟨0,0,0,u.kind,u.label,u.head.map gF,u.words.map gF,u.kids.map cG⟩:=by cases u;rw[cG,yE];rfl
theorem QL{p:PId}{u:TUnit}(h:cq p u=false):iZ p u=false:=by unfold iZ;rw[AK h];rfl
theorem WY{p:PId}{u:TUnit}(h:iZ p u=false):so p u=bR:=by unfold so;simp_all
theorem PD{p:PId}{u:TUnit}(h:iZ p u=false):qj p u= -1:=by unfold qj;simp_all
theorem ID{p:PId}{u:TUnit}(h:iZ p u=true):so p u=bv (Iz p u):=by unfold so;simp_all
theorem IE{p:PId}{u:TUnit}(h:iZ p u=true):qj p u=dA (cq p) (Iz p u).kids 0:=by unfold qj;simp_all
def oy(p:PId)(u:TUnit)(k:Nat):List PId:=((((aG p u).take ((aG p u).length -1)).drop k).map bv).reverse
theorem EA(p:PId)(u:TUnit):oy p u 0=pG p u:=rfl
theorem Dz(p:PId)(u:TUnit):oy p u ((aG p u).length -1)=[]:=by
 unfold oy;simp_all
theorem BZ(p:PId)(u:TUnit){k:Nat}(h:k+1<(aG p u).length):oy p u k=oy p u (k+1)++[bv (gD (aG p u) k)]:=by
 unfold oy;have h1:k<((aG p u).take ((aG p u).length -1)).length:=by grind
 rw[OA h1,eF,List.reverse_cons];grind[gD]
theorem Dq(p:PId)(u:TUnit)(k:Nat):(oy p u k).length≤(aG p u).length:=by grind[oy]
def lJ(s:PStep)(u:TUnit):List TUnit:=(bp u).filter (bC s)
def dz(s:PStep)(l:List TUnit):List TUnit:=(dr l).filter (bC s)
theorem zq(s:PStep)(u:TUnit):lJ s u=(bif bC s u then[u]else[])++dz s u.kids:=by
 unfold lJ dz;rw[dw,List.filter_cons];grind
theorem mG(s:PStep):dz s []=[]:=by unfold dz;rw[fN];rfl
theorem gr(s:PStep)(k:TUnit)(r:List TUnit):dz s (k::r)=lJ s k++dz s r:=by grind[lJ,dz,bM]
theorem ma(s:PStep)(u:TUnit):(lJ s u).length≤nU u:=by grind[lJ,FO]
theorem sB:∀(l m:List TUnit),eY (l++m)=eY l+eY m
 |[],m=>by rw[mW,wx,fw]
 |x::r,m=>by rw[yh,bh,bh,sB r m,Nat.add_assoc]
theorem zh(q:TUnit→Bool):∀(l:List TUnit),eY (l.filter q)≤eY l
 |[]=>by simp_all
 |x::r=>by
  rw[List.filter_cons,bh];have:=zh q r;cases q x with
  |true=>rw[if_pos rfl,bh];omega
  |false=>grind
theorem zg(q:TUnit→Bool):∀(l:List TUnit),eY (l.flatMap fun x=>x.kids.filter q)≤eY l
 |[]=>by simp_all
 |x::r=>by
  rw[List.flatMap_cons,sB,bh];have:=zg q r;grind[zh,jZ]
theorem K7{n:Nat}:∀(l:List TUnit),(∀x,x∈l→nU x≤n)→eY l≤n*l.length
 |[],_=>by simp_all[mW]
 |x::r,h=>by
  rw[bh,cP,Nat.mul_add,Nat.mul_one];have:=h x (eW ..);have:=K7 r fun y hy=>h y (eJ _ hy)
  omega
theorem GQ(s:PStep)(u:TUnit)(hp:∀x,x∈bp u→nU x≤nU u):eY (lJ s u)≤nU u*nU u:=by
 have h1:=K7 (n:=nU u) (lJ s u) fun x hx=>hp x (List.mem_filter.1 hx).1
 exact bT h1 (Nat.mul_le_mul_left _ (ma s u))
theorem Iy(l:List TUnit):gw [] l=l:=rfl
theorem Jq{u:TUnit}{p:List PStep}(h:kn p=false):dS u p=[]:=by unfold dS;simp_all
theorem GM{u:TUnit}(h:kn []=true):dS u []=[u]:=by unfold dS;simp_all
theorem GN{u:TUnit}{s:PStep}{r:List PStep}(h:kn (s::r)=true)(hb:nQ s=true):dS u (s::r)=gw r [u]:=by
 unfold dS;simp_all
theorem xX{u:TUnit}{s:PStep}{r:List PStep}(h:kn (s::r)=true)(hb:nQ s=false):dS u (s::r)=gw r (lJ s u):=by
 unfold dS;rw[h];show gw r (bif nQ s then[u]else(bp u).filter (bC s))=_
 rw[hb];rfl
def cp(s:PStep)(l:List TUnit):List TUnit:=l.flatMap fun x=>x.kids.filter (bC s)
section
variable{s:PStep}{l m r r1 X:List TUnit}{w w1:TUnit}{n N:Nat}{rs0:List PStep}{R at0:List TUnit}
theorem I8:cp s []=[]:=rfl
theorem wP:cp s (w::r)=w.kids.filter (bC s)++cp s r:=by grind[cp]
theorem Ia(rs:List PStep):gw (s::rs) l=gw rs (cp s l):=rfl
theorem GZ:eY (cp s l)≤eY l:=zg _ l
theorem fA(h:R=gw (s::rs0) l∧eY l≤N)(e:cp s []=cp s l):R=gw rs0 []∧eY []≤N:=⟨by rw[h.1,Ia,←e];rfl,by simp_all[mW]⟩
theorem fB(h:R=gw (s::rs0) l∧eY l≤N)(e:m++cp s []=cp s l):R=gw rs0 m∧eY m≤N:=by grind[I8,Ia,GZ]
theorem gA(h:cp s (w1::r1)=X):w1.kids.filter (bC s)++cp s r1=X:=wP.symm.trans h
theorem gB(h:n=m.length∧m++cp s (w1::r1)=X∧m.length+eY (w1::r1)<N):n=m.length∧m++(w1.kids.filter (bC s)++cp s r1)=X∧m.length+(eY w1.kids+eY r1)<N:=⟨h.1,wP (s:=s)▸h.2.1,by grind[bh,jZ]⟩
theorem hA0(h:(w::r).filter (bC s)++cp s r1=X)(q:bC s w=false):r.filter (bC s)++cp s r1=X:=by simp_all
theorem hB0(h:n=m.length∧m++((w::r).filter (bC s)++cp s r1)=X∧m.length+(eY (w::r)+eY r1)<N)(q:bC s w=false):n=m.length∧m++(r.filter (bC s)++cp s r1)=X∧m.length+(eY r+eY r1)<N:=⟨h.1,by simp_all,by grind[bh]⟩
theorem hB1(h:n=m.length∧m++((w::r).filter (bC s)++cp s r1)=X∧m.length+(eY (w::r)+eY r1)<N)(q:bC s w=true):n+1=(m++[w]).length∧(m++[w])++(r.filter (bC s)++cp s r1)=X∧(m++[w]).length+(eY r+eY r1)<N:=⟨by simp_all,by simp_all,by grind[I0,bh]⟩
end
section
variable{p:PId}{u:TUnit}{i:Int}{l:List PId}
theorem Oz(hn:i=Int.ofNat (aG p u).length -2)(h0:ao i 0=false):[bv (gD (aG p u) i.toNat)]=oy p u (i-1+1).toNat:=by
 have h0:=aB h0;simp only[aP]at hn;have e:(i-1+1).toNat=i.toNat:=by omega
 rw[e,BZ p u (k:=i.toNat) (by omega),show i.toNat+1=(aG p u).length -1 by omega,Dz,wx]
theorem HT(h:l=oy p u (i+1).toNat)(hi:i+2≤(aG p u).length)(h0:ao i 0=false):l++[bv (gD (aG p u) i.toNat)]=oy p u (i-1+1).toNat:=by
 have h0:=aB h0;grind[BZ]
theorem Sv(h:l=oy p u (i+1).toNat)(hi: -1≤i)(h0:ao i 0=true):l=pG p u:=by
 have h0:=am h0;rw[h,show(i+1).toNat=0 by omega,EA]
theorem Sw(hn:i=Int.ofNat (aG p u).length -2)(h0:ao i 0=true):pG p u=[]:=by
 have h0:=am h0;simp only[aP]at hn;rw[←EA];have:(aG p u).length -1=0:=by omega
 grind[Dz]
end
theorem KM{s:PStep}{l m:List TUnit}(h:dz s l=m)(hm:m≠[]):l≠[]:=by grind[mG]
theorem V3(l:List TUnit){z:AV}(hz:z.top=0):aq (l.map aK++[z])=0:=jT.2 fun x hx=>by grind[iW]
theorem oH{l x r:List TUnit}{w:TUnit}{j:Nat}(h1:l.drop j=x)(h2:x=w::r):nU w+eY r≤eY l:=by
 have e:l=l.take j++(w::r):=by grind[List.take_append_drop]
 grind[sB,bh]
end Go.Ev
namespace Go.Ev
open Go
def qU(l:List aI)(n:Int):Bool:=qq l&&aj (ao (.ofNat l.length) n)
def Bm(n:Int):Bool:=aj (ao n 0)&&aj (ao 256 n)
theorem JU{u:TUnit}(p:List PStep)(h:nU u≤2^11):(dS u p).length≤2^22:=by
 have key:∀(rs:List PStep)(l:List TUnit),eY (gw rs l)≤eY l:=by
  intro rs;induction rs with
  |nil=>intro l;exact au _
  |cons s r ih=>grind[Ia,GZ]
 unfold dS;cases kn p with
 |false=>simp_all
 | true=>
  simp only[cond_true];cases p with
  |nil=>simp_all
  | cons s r=>
   simp only[];refine bT (yQ _) (bT (key r _) ?_);cases nQ s with
   |true=>grind[bh,mW]
   |false=>
    simp only[cond_false];have h1:=GQ s u fun x hx=>dM hx
    have h2:nU u*nU u≤2^11*2^11:=Nat.mul_le_mul h h;exact bT h1 h2
theorem G2{u:TUnit}{p:List PStep}(h:dS u p=[]):aF u p=(bR,7):=by grind[aF]
theorem G1{u x:TUnit}{p:List PStep}(h:dS u p=[x]):aF u p=(bv x,0):=by grind[aF]
theorem G0{u x y:TUnit}{r:List TUnit}{p:List PStep}(h:dS u p=x::y::r):aF u p=(bR,8):=by grind[aF]
def xd(own:PId)(i:Int)(ok:Bool)(n:Int):PSpot×Int:=bif ok then(⟨own,i+n⟩,0)else(dG,9)
def Cz(e:Int)(sp:PSpot)(e2:Int):PSpot×Int:=bif al e 0 then(bif al e2 0 then(sp,0)else(dG,e2))else(dG,e)
def nI(p q own:PId)(at_:Int)(ok c bs:Bool)(sp:PSpot)(e:Int):PSpot×Int:=
 bif aj ok||((aj (bg q p)&&c)||(bg q p&&aj bs))then(dG,9)
 else bif bg q p then(⟨own,at_⟩,0)
 else bif al e 0&&(bg sp.id own&&ao at_ sp.at_)then(⟨sp.id,sp.at_-1⟩,e)else(sp,e)
end Go.Ev
