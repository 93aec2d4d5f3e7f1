/- An abstract machine for runs of the program, proved sound against the model: part 6. No conditions. -/
import Derived.Test.YtaepacpodblomaaGreatDoorMach5
import Derived.Shelf.SortM.Plain
import Derived.Shelf.SortM.SortNone
import Derived.Shelf.SlSortCmp.NoneTotal
import Derived.Shelf.SlicesG.CompactI
import Derived.Lib.QuietBelow
import GoSem.ClaimJoined
import Derived.Calls
import Derived.RunT
import Derived.Below
import Derived.Shelf.Strings.FuncGrows
import Derived.Laws.RangeAny
import Derived.Lib.Join
import Derived.Lib.Repeat
import Derived.Lib.SlTrimSet
namespace Go.Ev
open Go Go.Sort Go.Proofs
section
variable{P:Program}{G:eD}{pl:Pl}{M:du}{h:AHeap}{w w':World}
theorem tW(hr:cM pl M h w){id:Nat}{p:Place}{sz:Nat}{op:Bool}{ep:Nat}{xs xs':List AV}{c c':Array Value}{t:TypeId}(hp:pl id=some p)(hg:h.get id=some (.row sz op ep xs))
  (hb:w.heap[p.blk]?=some (.cells c t (0,0)))(hw:w'.heap[p.blk]?=some (.cells c' t (0,0)))(hcs:c'.size=c.size)(hlen:xs'.length=xs.length)(hel:∀x,x∈xs'→x.cells.length=sz∧Sc x)
  (hcell:∀i x j y,xs'[i]?=some x→x.cells[j]?=some y→VRel pl M y (c'.getD (i*sz+j) undef))(hs:WSame w w')(hsz:w.heap.size≤w'.heap.size)(hk:∀b,b<w.heap.size→b≠p.blk→w'.heap[b]?=w.heap[b]?):
  cM pl M (h.put id (.row sz op ep xs')) w'∧dZ h pl M w (h.put id (.row sz op ep xs')) pl M w':=by
 have ho:=hr.obj id p _ hp hg;rw[hb]at ho;simp only[bu]at ho;obtain⟨h1,h2,h3,h4,h5,h6,h7,h8⟩:=ho;have e:=yu (pl:=pl) hp;have:=cM.change (p':=p) (o':=.row sz op ep xs') hr hp hg (.inl rfl) hs hsz hk (.inl rfl) (wq.1 hw).1 (by
  rw[e,hw];simp only[bu];refine⟨h1,h2,by omega,by omega,trivial,h6,fun e=>by simp_all,⟨?_,hel,fun i x j y q1 q2=>?_⟩⟩
  ·grind[cases InMem]
  simp_all)
 simp_all
variable{β:Type}[Inhabited β]
theorem qo{enc:β→Value}{blk off n:Nat}{d:Array β}{os:Array Obj}{c:Array Value}{t:TypeId}{fr:Nat×Nat}(hb:w.heap[blk]?=some (.cells c t fr)):
  (grow (putRow enc (Sort.ahead w n) blk off d) os).heap[blk]?=some (.cells (putCells enc off d c) t fr):=by
 grind[grow,putRow,mapBlock,Sort.ahead,onCells]
theorem kY{enc:β→Value}{blk off n:Nat}{d:Array β}{os:Array Obj}{b:Nat}(hb:b<w.heap.size)(hne:b≠blk):
  (grow (putRow enc (Sort.ahead w n) blk off d) os).heap[b]?=w.heap[b]?:=by
 simp only[grow,putRow,mapBlock,Sort.ahead];grind
theorem nN{enc:β→Value}{blk off n:Nat}{d:Array β}{os:Array Obj}:WSame w (grow (putRow enc (Sort.ahead w n) blk off d) os):=⟨rfl,rfl,rfl,Nat.le_add_right _ _⟩
theorem Bp{enc:β→Value}{blk off n:Nat}{d:Array β}{os:Array Obj}:w.heap.size≤(grow (putRow enc (Sort.ahead w n) blk off d) os).heap.size:=by simp_all
theorem nI{enc:β→Value}{d:Array β}{c:Array Value}{k:Nat}(hk:k<d.size)(hc:k<c.size):(putCells enc 0 d c).getD k undef=enc d[k]!:=by simp_all[putCells]
theorem qV(hr:cM pl M h w){id ep len sz:Nat}{op:Bool}{cap:Option Nat}{xs:List AV}{x:Value}(hv:VRel pl M (.slice id ep 0 len cap) x)(hg:h.get id=some (.row sz op ep xs))(hl:0<len):
  ∃p c t cap',pl id=some p∧w.heap[p.blk]?=some (.cells c t (0,0))∧x=.slice (some ⟨p.blk,0,none⟩) len cap'∧InMem pl M c 0 sz xs∧0<sz∧p.blk<w.heap.size:=by
 cases hv with
 | slice hp he hle hk ha=>
  rename_i cap' a p;have ho:=hr.obj id p _ hp hg;cases hb:w.heap[p.blk]? with
  |none=>grind[bu]
  |some ob=>
   rw[hb]at ho;cases ob<;>simp only[bu]at ho
   rename_i c t fr;obtain⟨h1,h2,h3,h4,h5,h6,h7,h8⟩:=ho;subst h5;obtain⟨k1,_⟩:=ha (by omega);have k2:a=⟨p.blk,0,none⟩:=by grind
   exact⟨p,c,t,_,hp,hb,by rw[k2],h8,h6,(wq.1 hb).1⟩
def bX(zs:List Int):List Int:=zs.mergeSort fun x y=>decide (x≤y)
theorem ji(zs:List Int):(bX zs).Perm zs:=List.mergeSort_perm ..
theorem oL(zs:List Int):(bX zs).Pairwise (fun a b=>a≤b):=by
 have:=List.pairwise_mergeSort (le:=fun x y:Int=>decide (x≤y)) (by grind) (by grind) zs;exact this.imp (by simp)
theorem CD{c:Array Value}{sz:Nat}{xs:List AV}(hm:InMem pl M c 0 sz xs){i:Nat}{x:AV}(hx:xs[i]?=some x){j:Nat}(hj:j<sz):i*sz+j<c.size∧∃y,x.cells[j]?=some y∧VRel pl M y (c.getD (i*sz+j) undef):=by
 have h1:=hm.fit;have hi:=(ge.1 hx).1;have h2:=(hm.elem x (bi hx)).1;have h3:(i+1)*sz≤xs.length*sz:=eu _ hi;rw[jA]at h3;refine⟨by omega,x.cells[j],by simp_all,?_⟩;have:=hm.cell i x j _ hx (lu (by omega:j<x.cells.length));simp_all
theorem r9{f:FuncId}(hE:∀vs w,(callFunc f vs).run P w=.ok (.enter f vs) w)
  (hC:∀(blk off cap:Nat)(zs:List Int)(w:World),Holds (Value.int .i64) w blk off zs.toArray→blk<w.heap.size→zs.length<4611686018427387904→
   Calls P f #[.slice (some ⟨blk,off,none⟩) zs.length cap] w fun e w'=>e=.returned (.tuple #[])∧∃n os,w'=grow (putRow (Value.int .i64) (Sort.ahead w n) blk off (zs.mergeSort fun x y=>decide (x≤y)).toArray) os)
  {id ep:Nat}{op:Bool}{cap:Option Nat}(zs:List Int)(hg:h.get id=some (.row 1 op ep (zs.map av)))(hz:0<zs.length)(hb:zs.length<4611686018427387904):
  aL P G f [.slice id ep 0 zs.length cap] h (fun v h'=>v=.tuple []∧h'=h.put id (.row 1 op ep ((bX zs).map av))):=by
 intro pl M w vs hG hr hv;obtain⟨a,rfl,hv1⟩:=RN hv;obtain⟨p,c,t,cap',hp,hbl,rfl,hm,_,hlt⟩:=qV hr hv1 hg hz;have hcell:∀j z,zs[j]?=some z→j<c.size∧c.getD j undef=.int .i64 z:=by
  intro j z hj;have hx:(zs.map av)[j]?=some (av z):=by simp_all
  obtain⟨q1,y,q2,q3⟩:=CD hm hx (j:=0) (by omega);rw[Nat.mul_one,pi]at q1 q3;simp[av,AV.cells]at q2;subst q2;refine⟨q1,?_⟩;cases hq:c.getD j undef<;>rw[hq]at q3<;>cases q3
  rfl
 refine .inl ⟨hE _ _,Calls.mono (hC p.blk 0 cap' zs w (fun j hj=>?_) hlt hb) fun e w' ⟨he,n,os,hw⟩=>?_⟩
 ·have hj':j<zs.length:=by omega
  obtain⟨q1,q2⟩:=hcell j zs[j] (lu hj');rw[eO];refine⟨?_,?_⟩
  ·simp only[World.cell?,hbl];simp only[Option.isSome_none,gc,if_false];rw[EP q1];simp_all
  grind[World.frozen?]
 ·refine⟨.tuple #[],.tuple [],_,he,⟨rfl,rfl⟩,pl,M,qT,?_⟩;have hlen:(bX zs).length=zs.length:=(ji zs).length_eq;have hw1:w'.heap[p.blk]?=some (.cells (putCells (Value.int .i64) 0 (bX zs).toArray c) t (0,0)):=by rw[hw];exact qo hbl
  obtain⟨r1,r2⟩:=tW (w':=w') (xs':=(bX zs).map av) hr hp hg hbl hw1 (by simp[putCells]) (by simp_all) (fun x hx=>by
    obtain⟨z,_,rfl⟩:=ka.1 hx;exact⟨rfl,fun y hy=>by simp[av,AV.cells]at hy;subst hy;rfl⟩) (fun i x j y q1 q2=>by
    rw[pT]at q1;obtain⟨z,e1,rfl⟩:=EO.1 q1;have hi:=(ge.1 e1).1;cases j with
    |succ j=>grind[av,AV.cells]
    |zero=>
     simp[av,AV.cells]at q2;subst q2;rw[Nat.mul_one,pi,nI (by omega) (hcell i zs[i] (lu (by omega))).1];have:(bX zs).toArray[i]! =z:=by simp_all
     rw[this];exact .int _ _) (by grind[nN]) (by simp_all) (fun b hb hne=>by grind[kY])
  exact⟨r1,r2,ao _⟩
def am(zs:List Int):List Int:=Lib.compact zs
theorem xj(zs:List Int):(am zs).length≤zs.length:=by grind[am,Lib.compact,Lib.compactUpTo]
theorem od{f:FuncId}(hE:∀vs w,(callFunc f vs).run P w=.ok (.enter f vs) w)
  (hC:∀(blk off cap:Nat)(zs:List Int)(w:World),Holds (Value.int .i64) w blk off zs.toArray→zs.length≤9223372036854775807→zs.length≤cap→
   Calls P f #[.slice (some ⟨blk,off,none⟩) zs.length cap] w fun e w'=>e=.returned (.slice (some ⟨blk,off,none⟩) (Lib.compact zs).length cap)∧∃q,w'=putRow (Value.int .i64) (Sort.ahead w q) blk off (Lib.compact zs++List.replicate (zs.length-(Lib.compact zs).length) 0).toArray)
  {id ep:Nat}{op:Bool}(zs:List Int)(hg:h.get id=some (.row 1 op ep (zs.map av)))(hz:0<zs.length)(hb:zs.length<4611686018427387904):
  aL P G f [.slice id ep 0 zs.length none] h (fun v h'=>v=.slice id ep 0 (am zs).length none∧h'=h.put id (.row 1 op ep ((am zs++List.replicate (zs.length-(am zs).length) 0).map av))):=by
 intro pl M w vs hG hr hv;obtain⟨a,rfl,hv1⟩:=RN hv;obtain⟨p,c,t,cap',hp,hbl,rfl,hm,_,hlt⟩:=qV hr hv1 hg hz;have hcell:∀j z,zs[j]?=some z→j<c.size∧c.getD j undef=.int .i64 z:=by
  intro j z hj;have hx:(zs.map av)[j]?=some (av z):=by simp_all
  obtain⟨q1,y,q2,q3⟩:=CD hm hx (j:=0) (by omega);rw[Nat.mul_one,pi]at q1 q3;simp[av,AV.cells]at q2;subst q2;refine⟨q1,?_⟩;cases hq:c.getD j undef<;>rw[hq]at q3<;>cases q3
  rfl
 have hle:=xj zs;have hcap:zs.length≤cap':=by grind[cases VRel]
 generalize hnew:am zs++List.replicate (zs.length-(am zs).length) 0=ns;have hnl:ns.length=zs.length:=by grind
 refine .inl ⟨hE _ _,Calls.mono (hC p.blk 0 cap' zs w (fun j hj=>?_) (by omega) hcap) fun e w' ⟨he,n,hw⟩=>?_⟩
 ·have hj':j<zs.length:=by omega
  obtain⟨q1,q2⟩:=hcell j zs[j] (lu hj');rw[eO];refine⟨?_,?_⟩
  ·simp only[World.cell?,hbl];simp only[Option.isSome_none,gc,if_false];rw[EP q1];simp_all
  grind[World.frozen?]
 ·have hw2:w'=grow (putRow (Value.int .i64) (Sort.ahead w n) p.blk 0 ns.toArray) #[]:=by rw[hw,grow_empty];congr 2
  have hrel:VRel pl M (.slice id ep 0 (am zs).length none) (.slice (some ⟨p.blk,0,none⟩) (am zs).length cap'):=by
   cases hv1 with
   |slice hp he hl hk ha=>
    refine .slice hp he (by omega) hk fun e=>?_
    grind
  refine⟨_,_,_,he,⟨rfl,rfl⟩,pl,M,hrel,?_⟩;have hw1:w'.heap[p.blk]?=some (.cells (putCells (Value.int .i64) 0 ns.toArray c) t (0,0)):=by grind[qo]
  obtain⟨r1,r2⟩:=tW (w':=w') (xs':=ns.map av) hr hp hg hbl hw1 (by simp[putCells]) (by simp_all) (fun x hx=>by
    obtain⟨z,_,rfl⟩:=ka.1 hx;exact⟨rfl,fun y hy=>by simp[av,AV.cells]at hy;subst hy;rfl⟩) (fun i x j y q1 q2=>by
    rw[pT]at q1;obtain⟨z,e1,rfl⟩:=EO.1 q1;have hi:=(ge.1 e1).1;cases j with
    |succ j=>grind[av,AV.cells]
    |zero=>
     simp[av,AV.cells]at q2;subst q2;rw[Nat.mul_one,pi,nI (by omega) (hcell i zs[i] (lu (by omega))).1];have:ns.toArray[i]! =z:=by simp_all
     rw[this];exact .int _ _) (by grind[nN]) (by simp_all) (fun b hb hne=>by grind[kY])
  exact⟨r1,r2,ao _⟩
theorem De{f:FuncId}(hE:∀vs w,(callFunc f vs).run P w=.ok (.enter f vs) w)
  (hC:∀(p:Option Addr)(cap:Nat)(w:World),Calls P f #[.slice p 0 cap] w fun e w'=>e=.returned (.tuple #[])∧w'=w):ar P G f [.nils] (.tuple []):=by
 intro h pl M w vs hG hr hv;obtain⟨a,rfl,hv1⟩:=RN hv;cases hv1
 exact .inl ⟨hE _ _,Calls.mono (hC none 0 w) fun e w' ⟨he,hw⟩=>⟨.tuple #[],.tuple [],h,he,⟨rfl,rfl⟩,pl,M,qT,by simp_all[StepF.refl]⟩⟩
theorem vk{f:FuncId}{g:Fn}(hE:∀vs w,(callFunc f vs).run P w=.ok (.enter f vs) w)
  (hC:∀(p:Option Addr)(cap:Nat)(fv:Value)(w:World),Calls P f #[.slice p 0 cap,fv] w fun e w'=>e=.returned (.tuple #[])∧w'=w):ar P G f [.nils,.func g [] []] (.tuple []):=by
 intro h pl M w vs hG hr hv;obtain⟨a,b,rfl,hv1,hv2⟩:=A8 hv;cases hv1
 exact .inl ⟨hE _ _,Calls.mono (hC none 0 b w) fun e w' ⟨he,hw⟩=>⟨.tuple #[],.tuple [],h,he,⟨rfl,rfl⟩,pl,M,qT,by simp_all[StepF.refl]⟩⟩
def DN{α:Type}(cmp:α→α→Int)(a b:α):Bool:=decide (cmp a b<0)
theorem Bg{f g:FuncId}{sz:Nat}(hGT:iL G)(hE:∀vs w,(callFunc f vs).run P w=.ok (.enter f vs) w)(hg2:∀args w,(callFunc g args).run P w=.ok (.enter g args) w)
  (hC:∀(m:Nat)(enc:Fin (m+1)→List Value)(cf:Fin (m+1)→Fin (m+1)→Int)(blk off cap:Nat)(d:Array (Fin (m+1)))(w:World),(∀x,(enc x).length=sz)→(∀x,∀v∈enc x,v.oneCell'=true)→SWO (ltOf cf)→
   CmpLays P g #[] enc sz cf blk off d.size w→HoldsK enc sz w blk off d→blk<w.heap.size→d.size<4611686018427387904→
   Calls P f #[.slice (some ⟨blk,off,none⟩) d.size cap,.func (.func g) #[] #[]] w fun e w'=>e=.returned (.tuple #[])∧∃d' n os,PermIn 0 d.size d d'∧SortedIn (ltOf cf) 0 d.size d'∧w'=sortWorldK enc sz w blk off n d' os)
  {α:Type}[Inhabited α](enc:α→AV)(cmp:α→α→Int)(hO:SWO (DN cmp))(hag:∀a,∃cs,enc a=.agg cs)(htop:∀a,(enc a).top=0)
  (l:List α)(hcmp:∀a,a∈l→∀b,b∈l→ar P G g [enc a,enc b] (.int .i64 (cmp a b)))
  {oid ep:Nat}{op:Bool}{cap:Option Nat}(hg:h.get oid=some (.row sz op ep (l.map enc)))(hz:0<l.length)(hb:l.length<4611686018427387904):
  aL P G f [.slice oid ep 0 l.length cap,.func (.func g) [] []] h (fun v h'=>∃l':List α,(l'.Perm l∧l'.Pairwise fun a b=>DN cmp b a=false)∧v=.tuple []∧h'=h.put oid (.row sz op ep (l'.map enc))):=by
 intro pl M w vs hG hr hv;obtain⟨a,fv,rfl,hv1,hv2⟩:=A8 hv;have e2:=zK hv2;subst e2;obtain⟨p,c,t,cap',hp,hbl,rfl,hm,hsz0,hlt⟩:=qV hr hv1 hg hz;obtain⟨m,hm1⟩:∃m,l.length=m+1:=⟨l.length-1,by omega⟩
 have hfit:=hm.fit;rw[bG,eO,hm1]at hfit;have helem:∀i:Fin (m+1),(l.map enc)[i.1]?=some (enc l[i.1]!):=fun i=>by
  have:=i.2;rw[pT,lu (by omega),getElem!_pos l i.1 (by omega)];rfl
 have hmul:∀i:Fin (m+1),i.1*sz+sz≤(m+1)*sz:=fun i=>by have:=eu sz (Nat.succ_le_of_lt i.2);rwa[qQ]at this
 generalize hcof:(fun i:Fin (m+1)=>(List.range sz).map fun j=>c.getD (i.1*sz+j) undef)=cellsOf;have cl:∀i,(cellsOf i).length=sz:=fun i=>by rw[←hcof];simp
 have cg:∀i j,j<sz→(cellsOf i)[j]?=some (c.getD (i.1*sz+j) undef):=fun i j hj=>by rw[←hcof];simp[hj]
 generalize hd:(Array.ofFn (n:=m+1) id)=d;have hds:d.size=m+1:=by rw[←hd];simp
 have hdg:∀j (hj:j<m+1),d[j]! =⟨j,hj⟩:=fun j hj=>by rw[getElem!_pos d j (by omega)];subst hd;simp
 have hflat:∀(dk:Array (Fin (m+1))),dk.size=m+1→∀i j,i<m+1→j<sz→(flatK cellsOf sz dk)[i*sz+j]! =c.getD ((dk[i]!).1*sz+j) undef:=fun dk hdk i j hi hj=>by
  have h1:i*sz+j<dk.size*sz:=by have:=eu sz (Nat.succ_le_of_lt hi);rw[qQ]at this;rw[hdk];omega
  rw[get_flatK cellsOf sz dk _ h1];have h2:(i*sz+j)/sz=i:=by rw[Nat.mul_comm,Nat.mul_add_div hsz0,Nat.div_eq_of_lt hj,pi]
  have h3:(i*sz+j)%sz=j:=by rw[Nat.mul_comm,Nat.mul_add_mod,Nat.mod_eq_of_lt hj]
  rw[h2,h3,getElem!_pos _ j (by rw[cl];exact hj)];have:=cg (dk[i]!) j hj;rw[lu (by rw[cl];exact hj)]at this;simpa using this
 have hH:HoldsK cellsOf sz w p.blk 0 d:=by
  intro k hk;rw[size_flatK,hds]at hk;have hi:k/sz<m+1:=Nat.div_lt_of_lt_mul (by rw[Nat.mul_comm];exact hk);have hj:k%sz<sz:=Nat.mod_lt _ hsz0;have hk2:k/sz*sz+k%sz=k:=by rw[Nat.mul_comm];exact Nat.div_add_mod k sz
  have:=hflat d hds (k/sz) (k%sz) hi hj;rw[hdg _ hi,hk2]at this;rw[this,eO];have hkc:k<c.size:=by omega
  refine⟨?_,by simp[World.frozen?,hbl]⟩;simp only[World.cell?,hbl];simp only[Option.isSome_none,gc,if_false];rw[EP hkc];simp[Array.getD,hkc]
 have hrelE:∀(i:Fin (m+1)) cs,enc l[i.1]! =.agg cs→cs.length=sz∧(∀y,y∈cs→cP y=true)∧∀(j:Nat)(y:AV),cs[j]?=some y→VRel pl M y (c.getD (i.1*sz+j) undef):=by
  intro i cs hcs;have h1:=hm.elem _ (bi (helem i));rw[hcs]at h1;refine⟨h1.1,h1.2,fun j y hj=>?_⟩;have:=hm.cell i.1 _ j y (helem i) (by rw[hcs];exact hj);rwa[eO]at this
 have hone:∀i,∀v∈cellsOf i,v.oneCell'=true:=by
  intro i v hvm;obtain⟨j,hj,e⟩:=EN hvm;rw[cl]at hj;have h1:=cg i j hj;rw[lu (by rw[cl];exact hj),e]at h1;obtain⟨cs,hcs⟩:=hag l[i.1]!;obtain⟨k1,k2,k3⟩:=hrelE i cs hcs;have:=k3 j cs[j] (lu (by omega));cases h1
  exact this.one (k2 _ (Dx _))
 have hmemL:∀i:Fin (m+1),l[i.1]!∈l:=fun i=>by
  have:=i.2;rw[getElem!_pos l i.1 (by omega)];exact Dx _
 have hlays:CmpLays P g #[] cellsOf sz (fun i j=>cmp l[i.1]! l[j.1]!) p.blk 0 d.size w:=by
  intro n os dk hdk x y;generalize hW:sortWorldK cellsOf sz w p.blk 0 n dk os=W;have hWo:∀b,b<w.heap.size→b≠p.blk→W.heap[b]?=w.heap[b]?:=fun b h1 h2=>by rw[←hW];exact kY h1 h2
  have hrW:cM (fun _=>none) M AHeap.none W:=qk (pl:=fun _=>none) (n:=0) (g:=AHeap.none.get) ⟨fun _ _ h=>by simp at h,fun _ _ _ h=>by simp at h,fun _ _ h=>by simp at h,fun _ _ _ _ h=>by simp at h,fun b c' hM=>by
   obtain⟨t',fr,q⟩:=hr.imm b c' hM;refine⟨t',fr,?_⟩;rw[hWo b (hr.memLt hM) (fun e=>by have:=hr.sep oid p hp;rw[←e,hM]at this;cases this)];exact q,fun _ _ h=>by simp at h⟩
  have hrel:∀i:Fin (m+1),VRel (fun _=>none) M (enc l[i.1]!) (.agg (cellsOf i).toArray):=by
   intro i;obtain⟨cs,hcs⟩:=hag l[i.1]!;obtain⟨k1,k2,k3⟩:=hrelE i cs hcs;have ht:=htop l[i.1]!;rw[hcs]at ht ⊢;refine .agg (by simp[cl,k1]) k2 fun j y hj=>?_
   have hj':j<sz:=by rw[←k1];exact(ge.1 hj).1
   have e:(cellsOf i).toArray.getD j undef=c.getD (i.1*sz+j) undef:=by
    have:=cg i j hj';rw[gC,n5,this];rfl
   rw[e];exact(k3 j y hj).none (jT.1 ht y (bi hj))
  have hc:=hcmp _ (hmemL x) _ (hmemL y) AHeap.none (fun _=>none) M W #[.agg (cellsOf x).toArray,.agg (cellsOf y).toArray] (hG.none hGT) hrW ⟨rfl,fun j z hj=>by
   match j,hj with
   |0,hj=>cases hj;exact hrel x
   |1,hj=>cases hj;exact hrel y⟩
  rcases hc with⟨h1,h2⟩|⟨cv,w',v,h',h1,h2,h3⟩
  ·refine Calls.mono h2 fun e w' ⟨cv,v,h',k1,k2,pl',M',k3,k4,k5,k6⟩=>?_
   obtain⟨k2,_⟩:=k2;subst k2;cases k3
   refine⟨k1,?_⟩;obtain⟨q,hq⟩:=regrown_of_below (w:=W) (w':=w') ⟨k5.os,k5.tape,k5.out,k5.size,fun b hb=>k5.kept b hb fun id p h=>by simp at h⟩;refine⟨w'.drawn-W.drawn,q.os,?_⟩;have hd1:w'.drawn=q.d:=by rw[hq];rfl
   have hd2:=k5.drawn;have:redrawn W q.d=W.drewN (w'.drawn-W.drawn):=by
    show({W with drawn:=q.d}:World)={W with drawn:=W.drawn+(w'.drawn-W.drawn)}
    congr 1;omega
   rw[←this];exact hq
  ·rw[hg2]at h1;cases h1
 refine .inl ⟨hE _ _,?_⟩;have hcall:=hC m cellsOf (fun i j=>cmp l[i.1]! l[j.1]!) p.blk 0 cap' d w cl hone ⟨fun x=>hO.irrefl _,fun x y z=>hO.trans _ _ _,fun x y z=>hO.ntrans _ _ _⟩ hlays hH hlt (by omega);rw[show d.size=l.length by omega]at hcall;refine Calls.mono hcall fun e w' ⟨he,d',n,os,hP,hS,hw⟩=>?_
 obtain⟨hp1,_,hp3⟩:=hP;have hd's:d'.size=m+1:=by omega
 have hperm:d'.toList.Perm d.toList:=by
  have e1:d'.extract 0 l.length=d':=by rw[show l.length=d'.size by omega];exact Array.extract_size
  have e2:d.extract 0 l.length=d:=by rw[show l.length=d.size by omega];exact Array.extract_size
  rwa[e1,e2]at hp3
 have hdl:d.toList.map (fun i=>l[i.1]!)=l:=by
  apply List.ext_getElem?;intro i;by_cases hi:i<l.length
  ·rw[pT,Array.getElem?_toList,EP (by omega),lu hi];have:=hdg i (by omega);rw[getElem!_pos d i (by omega)]at this;rw[this];show some (l[i]!)=some l[i]
   rw[getElem!_pos l i hi]
  ·rw[List.getElem?_eq_none (by simp;omega),List.getElem?_eq_none (by omega)]
 have hl':(d'.toList.map (fun i=>l[i.1]!)).length=l.length:=by simp;omega
 refine⟨.tuple #[],.tuple [],_,he,⟨d'.toList.map (fun i=>l[i.1]!),⟨?_,?_⟩,rfl,rfl⟩,pl,M,qT,?_⟩
 ·have:=hperm.map (fun i=>l[i.1]!);rwa[hdl]at this
 ·rw[Jo];intro i j hi hj hij;have hi':i<d'.size:=by simpa using hi
  have hj':j<d'.size:=by simpa using hj
  have:=hS i j (bM _) hij (by omega);rw[getElem!_pos d' i hi',getElem!_pos d' j hj']at this;simpa[DN,ltOf]using this
 ·have hw1:w'.heap[p.blk]?=some (.cells (putCells id 0 (flatK cellsOf sz d') c) t (0,0)):=by rw[hw];exact qo hbl
  obtain⟨r1,r2⟩:=tW (w':=w') (xs':=(d'.toList.map (fun i=>l[i.1]!)).map enc) hr hp hg hbl hw1 (by simp[putCells]) (by simp;omega) (fun x hx=>by
    obtain⟨z,h1,rfl⟩:=ka.1 hx;obtain⟨i,_,rfl⟩:=ka.1 h1;exact hm.elem _ (bi (helem i))) (fun i x j y q1 q2=>by
    rw[pT,pT,Array.getElem?_toList]at q1;obtain⟨z,e1,rfl⟩:=EO.1 q1;obtain⟨k,e2,rfl⟩:=EO.1 e1;have hi:i<d'.size:=(wq.1 e2).1;obtain⟨cs,hcs⟩:=hag l[k.1]!;obtain⟨k1,k2,k3⟩:=hrelE k cs hcs;rw[hcs]at q2;have hj:j<sz:=by rw[←k1];exact(ge.1 q2).1
    have hb1:i*sz+j<(m+1)*sz:=by have:=eu sz (Nat.succ_le_of_lt (show i<m+1 by omega));rw[qQ]at this;omega
    rw[nI (by rw[size_flatK,hd's];exact hb1) (by omega)];have:=hflat d' hd's i j (by omega) hj;have e3:d'[i]! =k:=by rw[getElem!_pos d' i hi];rw[EP hi]at e2;simpa using e2
    rw[e3]at this;show VRel pl M y (flatK cellsOf sz d')[i*sz+j]!
    rw[this];exact k3 j y q2) (by rw[hw];exact nN) (by rw[hw];exact Bp) (fun b hb hne=>by rw[hw];exact kY hb hne)
  exact⟨r1,r2,ao _⟩
end
end Go.Ev
namespace Go.Ev
open Go
theorem yy(a b:Int):aF (jP a b) 0=aF a b:=by
 unfold jP;cases h:aF a b with
 |true=>rfl
 |false=>cases h2:aF b a<;>rfl
noncomputable def nS(l:List PSpan)(d:Int):Nat:=(l.takeWhile fun s=>aF s.from_ d).length
theorem Eb(l:List PSpan)(d:Int):nS l d≤l.length:=by
 induction l with
 |nil=>simp[nS]
 |cons a r ih=>grind[nS,List.takeWhile_cons]
def sx(l:List PSpan):Prop:=l.Pairwise fun a b=>a.from_≤b.from_
theorem AC{d:Int}:∀{l:List PSpan},sx l→∀k,k<l.length→(aF (gD l k).from_ d=true↔k<nS l d)
 |[],_,k,h=>by simp_all
 | a::r,hs,k,h=>by
  obtain⟨h1,h2⟩:=jx.1 hs;unfold nS;rw[List.takeWhile_cons];cases q:aF a.from_ d with
  | true=>
   simp only[if_true,cN];cases k with
   |zero=>grind[gD]
   |succ k=>
    have:=AC (d:=d) h2 k (by simp_all);rw[show gD (a::r) (k+1)=gD r k from rfl,this];grind[nS]
  |false=>
   simp only[gc,if_false,gu,pP,iff_false,Bool.not_eq_true];have hd:=aG q;grind[iC,kf]
noncomputable def IL(l:List PSpan)(d:Int):Bool:=aF (Int.ofNat (nS l d)) (Int.ofNat l.length)&&al (jP (gD l (nS l d)).from_ d) 0
theorem OZ{l:List PSpan}(h:l.Pairwise fun a b=>a.to<b.from_)(h2:∀s,s∈l→s.from_<s.to):sx l:=by
 induction l with
 |nil=>exact .nil
 |cons a r ih=>
  obtain⟨h3,h4⟩:=jx.1 h;refine jx.2 ⟨fun b hb=>?_,ih h4 fun s hs=>h2 s (fJ _ hs)⟩;grind
structure NrmS(l:List PSpan):Prop where
 gap:l.Pairwise fun a b=>a.to<b.from_
 ok:∀s,s∈l→0≤s.from_∧s.from_<s.to∧s.to≤1048577
theorem NrmS.sort{l:List PSpan}(h:NrmS l):sx l:=OZ h.gap fun s hs=>(h.ok s hs).2.1
theorem HG:∀{l:List PSpan}{b:Int},l.Pairwise (fun a b=>a.to<b.from_)→(∀s,s∈l→b≤s.from_∧s.from_<s.to∧s.to≤1048577)→b≤1048577→Int.ofNat l.length≤1048577-b
 |[],b,_,_,hb=>by simp_all
 |a::r,b,h,h2,hb=>by
  obtain⟨h3,h4⟩:=jx.1 h;have h5:=h2 a (fW ..);have:=HG (l:=r) (b:=b+1) h4 (fun s hs=>by grind) (by omega);grind
theorem NrmS.len{l:List PSpan}(h:NrmS l):l.length≤1048577:=by
 have:=HG (b:=0) h.gap h.ok (by omega);grind
noncomputable def ip(l:List PSpan)(d:Int):Bool:=IL l d||(aF 0 (Int.ofNat (nS l d))&&aF d (gD l (nS l d-1)).to)
theorem DG(a b:Int):Cm a b=max a b:=by
 unfold Cm;cases h:aF a b with
 |true=>have:=aA h;grind
 |false=>have:=aG h;grind
theorem DH(a b:Int):KE a b=min a b:=by
 unfold KE;cases h:aF b a with
 |true=>have:=aA h;grind
 |false=>have:=aG h;grind
noncomputable abbrev Vi(s:PSpan):PSpan:=⟨Cm s.from_ 0,KE s.to 1048577⟩
noncomputable abbrev Xt(s:PSpan):Bool:=aF (Cm s.from_ 0) (KE s.to 1048577)
noncomputable def ja:List PSpan→List PSpan
 |[]=>[]
 |s::r=>match Xt s with|true=>Vi s::ja r|false=>ja r
theorem uH{s:PSpan}{r:List PSpan}(h:Xt s=true):ja (s::r)=Vi s::ja r:=by grind[ja]
theorem uI{s:PSpan}{r:List PSpan}(h:Xt s=false):ja (s::r)=ja r:=by grind[ja]
theorem C7:∀(l:List PSpan),(ja l).length≤l.length
 |[]=>by simp[ja]
 |s::r=>by
  have:=C7 r;cases h:Xt s with
  |true=>grind[uH]
  |false=>grind[uI]
theorem AD:∀{l:List PSpan}{s:PSpan},s∈ja l→0≤s.from_∧s.from_<s.to∧s.to≤1048577
 | a::r,s,hs=>by
  cases h:Xt a with
  |true=>
   rw[uH h]at hs;rcases fD.1 hs with e|e
   ·subst e;have h2:=aA h;grind[DG,DH]
   ·exact AD e
  |false=>rw[uI h]at hs;exact AD hs
def memB(l:List PSpan)(d:Int):Bool:=l.any fun s=>decide (s.from_≤d∧d<s.to)
def OY(d:Int):Bool:=decide (0≤d∧d<1048577)
theorem mG(d:Int):memB [] d=false:=rfl
theorem eh(a:PSpan)(l:List PSpan)(d:Int):memB (a::l) d=(decide (a.from_≤d∧d<a.to)||memB l d):=rfl
theorem zo(l r:List PSpan)(d:Int):memB (l++r) d=(memB l d||memB r d):=by simp[memB]
theorem jv{l:List PSpan}{d:Int}:memB l d=true↔∃s,s∈l∧s.from_≤d∧d<s.to:=by simp[memB]
theorem M9{l r:List PSpan}(h:l.Perm r)(d:Int):memB l d=memB r d:=by
 rw[Dj,jv,jv];grind
theorem C6:∀(l:List PSpan)(d:Int),memB (ja l) d=(OY d&&memB l d)
 |[],d=>by simp[ja,memB]
 | a::r,d=>by
  have ih:=C6 r d;have e:∀b:Bool,(b=decide (0≤d∧d<1048577∧a.from_≤d∧d<a.to))→(b||(OY d&&memB r d))=(OY d&&memB (a::r) d):=fun b hb=>by grind[eh,OY]
  cases h:Xt a with
  |true=>
   rw[uH h,eh,ih];refine e _ ?_;simp only[DG,DH];grind
  |false=>
   rw[uI h,ih];have h2:=aG h;simp only[DG,DH]at h2;grind
theorem NrmS.tail{a:PSpan}{r:List PSpan}(h:NrmS (a::r)):NrmS r:=⟨(jx.1 h.gap).2,fun s hs=>h.ok s (fJ _ hs)⟩
theorem NrmS.low{a x:PSpan}{r:List PSpan}(h:NrmS (a::r))(hx:x∈r):a.to<x.from_:=(jx.1 h.gap).1 x hx
theorem NrmS.head{a:PSpan}{r:List PSpan}(h:NrmS (a::r)):0≤a.from_∧a.from_<a.to∧a.to≤1048577:=h.ok a (fW ..)
theorem yX:NrmS []:=⟨.nil,fun s h=>by grind⟩
theorem rU{a:PSpan}{r:List PSpan}(h:NrmS (a::r)):memB (a::r) a.from_=true:=by grind[eh,cases NrmS]
theorem FL{a:PSpan}{r:List PSpan}(h:NrmS (a::r)){d:Int}(hd:memB (a::r) d=true):a.from_≤d:=by
 obtain⟨s,h1,h2,h3⟩:=jv.1 hd;rcases fD.1 h1 with e|e
 ·simp_all
 ·have:=h.low e;grind[cases NrmS]
theorem PN{a:PSpan}{r:List PSpan}(h:NrmS (a::r)):memB (a::r) a.to=false:=by
 cases q:memB (a::r) a.to with
 |false=>rfl
 |true=>
  obtain⟨s,h1,h2,h3⟩:=jv.1 q;rcases fD.1 h1 with e|e
  ·simp_all
  ·have:=h.low e;omega
theorem FI{a:PSpan}{r:List PSpan}(h:NrmS (a::r))(d:Int):memB r d=(decide (a.to≤d)&&memB (a::r) d):=by
 rw[eh];by_cases h1:a.to≤d
 ·grind
 ·have:memB r d=false:=by
   cases q:memB r d with
   |false=>rfl
   |true=>
    obtain⟨s,h2,h3,h4⟩:=jv.1 q;have:=h.low h2;omega
  grind
theorem zd:∀{r s:List PSpan},NrmS r→NrmS s→(∀d,memB r d=memB s d)→r=s
 |[],[],_,_,_=>rfl
 |[],b::s,_,hs,h=>by grind[rU,mG]
 |a::r,[],hr,_,h=>by grind[rU,mG]
 | a::r,b::s,hr,hs,h=>by
  have h1:b.from_≤a.from_:=FL hs (by grind[rU]);have h2:a.from_≤b.from_:=FL hr (by grind[rU]);have ha:=hr.head;have hb:=hs.head;have h3:¬a.to<b.to:=fun q=>by grind[eh,PN]
  have h4:¬b.to<a.to:=fun q=>by grind[eh,PN]
  have e:a=b:=by
   obtain⟨a1,a2⟩:=a;obtain⟨b1,b2⟩:=b;grind
  subst e;rw[zd hr.tail hs.tail fun d=>by rw[FI hr,FI hs,h]]
def wK(f:Int→Bool)(d:Int)(l:List PSpan):List PSpan:=match f d with
 |false=>l
 |true=>match l with
  |[]=>[⟨d,d+1⟩]
  |s::r=>if s.from_=d+1 then⟨d,s.to⟩::r else⟨d,d+1⟩::s::r
def wo(f:Int→Bool):Nat→List PSpan
 |0=>[]
 |k+1=>wK f (1048577-Int.ofNat (k+1)) (wo f k)
theorem N6{f:Int→Bool}{d:Int}{l:List PSpan}(h0:0≤d)(h1:d+1≤1048577)(hl:NrmS l)(hf:∀s,s∈l→d+1≤s.from_):
  NrmS (wK f d l)∧(∀s,s∈wK f d l→d≤s.from_)∧∀e,memB (wK f d l) e=((decide (e=d)&&f e)||memB l e):=by
 unfold wK;cases hfd:f d with
 |false=>grind
 | true=>
  match l,hl,hf with
  |[],_,_=>
   refine⟨⟨by simp,fun s hs=>by grind⟩,fun s hs=>by simp_all,fun e=>?_⟩;simp only[eh,mG,Bool.or_false];grind
  | s::r,hl,hf=>
   have hs:=hl.head;have hs2:=hf s (fW ..);simp only[];by_cases q:s.from_=d+1
   ·rw[if_pos q];refine⟨⟨jx.2 ⟨fun x hx=>hl.low hx,hl.tail.gap⟩,fun x hx=>?_⟩,fun x hx=>?_,fun e=>?_⟩
    ·grind[cases NrmS]
    ·grind
    ·simp only[eh];grind
   ·rw[if_neg q];refine⟨⟨jx.2 ⟨fun x hx=>?_,hl.gap⟩,fun x hx=>?_⟩,fun x hx=>?_,fun e=>?_⟩
    ·have:=hf x hx;rcases fD.1 hx with e|e
     ·grind
     ·have:=hl.low e;grind
    ·rcases fD.1 hx with e|e
     ·grind
     ·exact hl.ok x e
    ·grind
    ·rw[eh];grind
theorem Ff(f:Int→Bool):∀k,k≤1048577→NrmS (wo f k)∧(∀s,s∈wo f k→1048577-Int.ofNat k≤s.from_)∧∀e,memB (wo f k) e=(decide (1048577-Int.ofNat k≤e∧e<1048577)&&f e)
 |0,_=>by
  refine⟨yX,fun s h=>(by cases h),fun e=>?_⟩;have:decide (1048577-Int.ofNat 0≤e∧e<1048577)=false:=by simp_all
  rw[this];rfl
 |k+1,hk=>by
  obtain⟨h1,h2,h3⟩:=Ff f k (by omega);simp only[aR]at *;have:=N6 (f:=f) (d:=1048577-((k+1:Nat):Int)) (l:=wo f k) (by omega) (by omega) h1 (fun s hs=>by grind);have h5:wo f (k+1)=wK f (1048577-((k+1:Nat):Int)) (wo f k):=by grind[wo]
  grind
theorem PP(f:Int→Bool):∃l:List PSpan,NrmS l∧∀d,memB l d=(OY d&&f d):=by
 obtain⟨h1,_,h3⟩:=Ff f 1048577 (ao _);exact⟨_,h1,fun d=>by simp_all[OY]⟩
noncomputable def nf(f:Int→Bool):List PSpan:=Classical.choose (PP f)
theorem zf(f:Int→Bool):NrmS (nf f):=(Classical.choose_spec (PP f)).1
theorem Ir(f:Int→Bool)(d:Int):memB (nf f) d=(OY d&&f d):=(Classical.choose_spec (PP f)).2 d
theorem PR{f:Int→Bool}{r:List PSpan}(h:NrmS r)(hm:∀d,memB r d=(OY d&&f d)):r=nf f:=zd h (zf f) fun d=>by grind[Ir]
theorem PS{f g:Int→Bool}(h:∀d,OY d=true→f d=g d):nf f=nf g:=PR (zf f) fun d=>by
 rw[Ir];grind
theorem KC{l:List PSpan}(h:NrmS l):l=nf (memB l):=PR h fun d=>by
 cases q:memB l d with
 |false=>simp_all
 |true=>
  obtain⟨s,h1,h2,h3⟩:=jv.1 q;have:=h.ok s h1;have:OY d=true:=by unfold OY;grind
  simp_all
theorem xM{α:Type}[Inhabited α]{l:List α}{n:Nat}(h:n<l.length):l.take (n+1)=l.take n++[gD l n]:=by grind[List.take_add_one,gD]
theorem yk{α:Type}[Inhabited α]{l:List α}{n:Nat}(h:n<l.length):l.drop n=gD l n::l.drop (n+1):=by grind[List.drop_eq_getElem_cons,gD]
theorem td{α:Type}{l:List α}{n m:Nat}{x:α}(h:n≤m):(l.set m x).take n=l.take n:=by
 apply List.ext_getElem?;grind
theorem I1{α:Type}[Inhabited α]{l:List α}{i k:Nat}{x:α}(h:i<l.length):gD (l.set i x) k=if k=i then x else gD l k:=by
 unfold gD List.getD;grind
theorem sx.at{l:List PSpan}(h:sx l){i k:Nat}(hik:i≤k)(hk:k<l.length):(gD l i).from_≤(gD l k).from_:=by
 rcases fF i k with q|q
 ·have:=Jo.1 h i k (by omega) hk q;grind[gD]
 grind
structure MergeI(l cur:List PSpan)(n i:Nat):Prop where
 len:cur.length=l.length
 le:n≤i
 il:i≤l.length
 pos:0<i→0<n
 rest:∀k,i≤k→k<l.length→gD cur k=gD l k
 gap:∀j k,j<k→k<n→(gD cur j).to<(gD cur k).from_
 ok:∀k,k<n→0≤(gD cur k).from_∧(gD cur k).from_<(gD cur k).to∧(gD cur k).to≤1048577
 last:0<n→∀k,i≤k→k<l.length→(gD cur (n-1)).from_≤(gD l k).from_
 mem:∀d,(memB (cur.take n) d||memB (l.drop i) d)=memB l d
theorem MergeI.start(l:List PSpan):MergeI l l 0 0:=⟨rfl,ao _,bM _,fun h=>absurd h (wz _),fun _ _ _=>rfl,fun _ _ _ h=>absurd h (pP _),fun _ h=>absurd h (pP _),fun h=>absurd h (wz _),fun d=>by simp[memB]⟩
theorem MergeI.copy{l cur:List PSpan}{n i:Nat}(h:MergeI l cur n i)(hi:i<l.length)(hs:sx l)(hok:∀k,k<l.length→0≤(gD l k).from_∧(gD l k).from_<(gD l k).to∧(gD l k).to≤1048577)
  (hn:n=0∨(gD cur (n-1)).to<(gD cur i).from_):MergeI l (cur.set n (gD cur i)) (n+1) (i+1):=by
 rw[h.rest i (ao _) hi]at hn ⊢;have hl:=h.le;have hcl:=h.len;have hg:∀k,gD (cur.set n (gD l i)) k=if k=n then gD l i else gD cur k:=fun k=>I1 (by omega)
 refine⟨by simp_all,by omega,by omega,fun _=>by omega,fun k h1 h2=>?_,fun j k h1 h2=>?_,fun k h1=>?_,fun _ k h1 h2=>?_,fun d=>?_⟩
 ·grind[cases MergeI]
 ·rw[hg,hg,if_neg (by omega)];by_cases e:k=n
  ·rw[if_pos e];rcases hn with hn|hn
   ·omega
   ·by_cases e2:j=n-1
    ·simp_all
    ·have h3:=h.gap j (n-1) (by omega) (by omega);grind[cases MergeI]
  ·grind[cases MergeI]
 ·rw[hg];by_cases e:k=n
  ·simp_all
  ·grind[cases MergeI]
 ·rw[hg,if_pos (by omega)];exact hs.at (by omega) h2
 ·rw[xM (by grind),hg,if_pos rfl,td (ao _),zo,←h.mem d,yk hi,eh,eh,mG];grind
theorem MergeI.join{l cur:List PSpan}{n i:Nat}(h:MergeI l cur n i)(hi:i<l.length)(hs:sx l)(hok:∀k,k<l.length→0≤(gD l k).from_∧(gD l k).from_<(gD l k).to∧(gD l k).to≤1048577)
  (hn:0<n)(hle:(gD cur i).from_≤(gD cur (n-1)).to)(x:Int)(hx:x=Cm (gD cur (n-1)).to (gD cur i).to):MergeI l (cur.set (n-1) ⟨(gD cur (n-1)).from_,x⟩) n (i+1):=by
 rw[h.rest i (ao _) hi]at hle;rw[h.rest i (ao _) hi,DG]at hx;have hl:=h.le;have hcl:=h.len;have hg:∀k,gD (cur.set (n-1) ⟨(gD cur (n-1)).from_,x⟩) k=if k=n-1 then⟨(gD cur (n-1)).from_,x⟩else gD cur k:=fun k=>I1 (by omega)
 have h4:=h.ok (n-1) (by omega);have h5:=hok i hi;have h6:=h.last hn i (ao _) hi;refine⟨by simp_all,by omega,by omega,fun _=>hn,fun k h1 h2=>?_,fun j k h1 h2=>?_,fun k h1=>?_,fun _ k h1 h2=>?_,fun d=>?_⟩
 ·grind[cases MergeI]
 ·rw[hg,hg,if_neg (by omega)];by_cases e:k=n-1
  ·grind[cases MergeI]
  ·grind[cases MergeI]
 ·rw[hg];by_cases e:k=n-1
  ·grind
  ·grind[cases MergeI]
 ·grind[cases MergeI]
 ·obtain⟨m,rfl⟩:∃m,n=m+1:=⟨n-1,by omega⟩
  simp only[Nat.add_sub_cancel]at *;rw[xM (by grind),hg,if_pos rfl,td (ao _),zo,←h.mem d,yk hi,eh (gD l i),xM (by omega),zo,eh,eh,mG,Bool.or_false,Bool.or_false];grind
theorem MergeI.nrm{l cur:List PSpan}{n i:Nat}(h:MergeI l cur n i):NrmS (cur.take n):=by
 have hl:=h.le;have hcl:=h.len;have hil:=h.il;have hlen:(cur.take n).length=n:=by grind
 have hg:∀k (hk:k<(cur.take n).length),(cur.take n)[k]=gD cur k:=fun k hk=>by rw[List.getElem_take];unfold gD List.getD;grind
 refine⟨?_,fun s hs=>?_⟩;all_goals grind[List.pairwise_iff_getElem,List.getElem_of_mem,cases MergeI]
theorem MergeI.done{l cur:List PSpan}{n i:Nat}(h:MergeI l cur n i)(hi:l.length≤i)(d:Int):memB (cur.take n) d=memB l d:=by rw[←h.mem d,BG hi,mG,Bool.or_false]
theorem RB{l l':List PSpan}(hp:l'.Perm (ja l)):∀k,k<l'.length→0≤(gD l' k).from_∧(gD l' k).from_<(gD l' k).to∧(gD l' k).to≤1048577:=fun k hk=>AD (hp.mem_iff.1 (iC hk))
noncomputable def fm(l:List PSpan):List PSpan:=nf (memB l)
theorem FN{l r:List PSpan}(h:NrmS r)(hm:∀d,memB r d=memB (ja l) d):r=fm l:=PR h fun d=>by grind[C6]
theorem M5{l:List PSpan}(h:ja l=[]):[]=fm l:=FN yX fun d=>by grind
end Go.Ev
namespace Go.Ev
open Go
theorem tQ{zs:List Int}(hs:zs.Pairwise fun a b=>a≤b):(am zs).Pairwise (fun a b=>a<b)∧∀z,z∈am zs↔z∈zs:=by
 generalize hd:zs.toArray=d;have hsz:d.size=zs.length:=by grind
 have hx:∀j (hj:j<zs.length),d[j]! =zs[j]:=fun j hj=>by grind
 have mono:∀i j,i≤j→j<zs.length→d[i]!≤d[j]!:=fun i j hij hj=>by
  rcases fF i j with q|q
  ·rw[hx i (by omega),hx j hj];exact Jo.1 hs i j (by omega) hj q
  grind
 have key:∀m,m≤zs.length→(Lib.compactUpTo d m).Pairwise (fun a b=>a<b)∧(∀z,z∈Lib.compactUpTo d m→∃j,j<m∧z=d[j]!)∧∀j,j<m→d[j]!∈Lib.compactUpTo d m:=by
  intro m;induction m with
  |zero=>simp_all[Lib.compactUpTo]
  | succ m ih=>
   intro hm;obtain⟨h1,h2,h3⟩:=ih (by omega);rw[Lib.compactUpTo_succ];cases hk:Lib.keeps d m with
   | true=>
    simp only[if_true];have hk':m=0∨d[m]!≠d[m-1]!:=by grind[Lib.keeps]
    refine⟨List.pairwise_append.2 ⟨h1,by simp,fun a ha b hb=>?_⟩,fun z hz=>?_,fun j hj=>?_⟩
    ·obtain⟨j,hj,rfl⟩:=h2 a ha;have hb:b=d[m]!:=by simp_all
     subst hb;have e1:=mono j (m-1) (by omega) (by omega);have e2:=mono (m-1) m (by omega) (by omega);omega
    all_goals grind
   |false=>
    simp only[gc,if_false,dC];have hk':¬(m=0∨d[m]!≠d[m-1]!):=by grind[Lib.keeps]
    grind
 obtain⟨h1,h2,h3⟩:=key zs.length (ao _);have e:am zs=Lib.compactUpTo d zs.length:=by grind[am,Lib.compact]
 rw[e];refine⟨h1,fun z=>⟨fun hz=>?_,fun hz=>?_⟩⟩
 ·grind
 ·obtain⟨j,hj,rfl⟩:=EN hz;simp_all
theorem NrmS.at{l:List PSpan}(h:NrmS l){j k:Nat}(hjk:j<k)(hk:k<l.length):(gD l j).to<(gD l k).from_:=by
 have:=Jo.1 h.gap j k (by omega) hk hjk;grind[gD]
theorem NrmS.okAt{l:List PSpan}(h:NrmS l){k:Nat}(hk:k<l.length):0≤(gD l k).from_∧(gD l k).from_<(gD l k).to∧(gD l k).to≤1048577:=h.ok _ (iC hk)
theorem Td{l:List PSpan}{d:Int}:memB l d=true↔∃k,k<l.length∧(gD l k).from_≤d∧d<(gD l k).to:=by
 rw[jv];constructor
 ·rintro⟨s,h1,h2⟩
  obtain⟨k,hk,e⟩:=EN h1;have:gD l k=s:=by grind[gD]
  grind
 grind[iC]
theorem C4 {a b:Int}:al (jP a b) 0=true↔a=b:=by
 unfold jP;cases h:aF a b with
 | true => have:=aA h;constructor
           ·intro h;cases h
           omega
 |false=>
  have:=aG h;cases h2:aF b a with
  | true => have:=aA h2;constructor
            ·intro h;cases h
            omega
  |false=>have:=aG h2;exact⟨fun _=>by omega,fun _=>rfl⟩
theorem Tc{l:List PSpan}(h:NrmS l)(d:Int):ip l d=memB l d:=by
 have hi:=AC (d:=d) h.sort;have hc:=Eb l d;rw[Dj,Td];unfold ip IL;simp only[tY,bx];constructor
 ·rintro(⟨h1,h2⟩|⟨h1,h2⟩)
  ·have h1:=aA h1;simp only[aR]at h1;have h2:=C4.1 h2;have:=h.okAt (k:=nS l d) (by omega);grind
  ·have h1:=aA h1;have h2:=aA h2;simp only[aR]at h1;have h3:=aA ((hi (nS l d-1) (by omega)).2 (by omega));grind
 ·rintro⟨k,hk,h1,h2⟩
  by_cases e:(gD l k).from_=d
  ·left;have e1:¬k<nS l d:=fun q=>by have:=aA ((hi k hk).2 q);omega
   have e2:¬nS l d<k:=fun q=>by
    have h3:=h.at q hk;have h4:=h.okAt (k:=nS l d) (by omega);grind[nc]
   have e3:nS l d=k:=by omega
   rw[e3];exact⟨nc (by simp_all),C4.2 e⟩
  ·right;have e1:k<nS l d:=(hi k hk).1 (nc (by omega));have e2:¬k+1<nS l d:=fun q=>by
    have h3:=h.at (j:=k) (k:=k+1) (by omega) (by omega);have:=aA ((hi (k+1) (by omega)).2 q);omega
   grind[nc]
def px(l:List PSpan):List Int:=l.flatMap fun s=>[s.from_,s.to]
theorem CT(s:PSpan)(r:List PSpan):px (s::r)=[s.from_,s.to]++px r:=by simp[px]
theorem kq:∀(l:List PSpan),(px l).length=2*l.length
 |[]=>rfl
 |s::r=>by rw[CT];simp[kq r];omega
theorem G2{l:List PSpan}{s:PSpan}(h:s∈l):s.from_∈px l∧s.to∈px l:=by
 unfold px;grind
def dA(g:Int→Bool):List Int→List PSpan
 |[]=>[]
 | a::r=>match r with
  |[]=>[]
  |b::_=>match g a with
   |true=>⟨a,b⟩::dA g r
   |false=>dA g r
theorem n7(g:Int→Bool)(a b:Int)(r:List Int):dA g (a::b::r)=match g a with|true=>⟨a,b⟩::dA g (b::r)|false=>dA g (b::r):=by rw[dA]
def sW:Int→List Int→Int
 |a,[]=>a
 |_,b::r=>sW b r
theorem zL:∀{r:List Int}{a:Int},(a::r).Pairwise (fun a b=>a<b)→a≤sW a r∧∀z,z∈r→z≤sW a r
 |[],a,_=>⟨Int.le_refl _,fun z h=>by grind⟩
 |b::r,a,h=>by
  obtain⟨h1,h2⟩:=jx.1 h;have h3:=h1 b (fW ..);obtain⟨k1,k2⟩:=zL h2;grind[sW]
theorem Fb{g:Int→Bool}{C:List Int}(hg:∀x y,(∀z,z∈C→z≤x∨y≤z)→∀d,x≤d→d<y→g d=g x):
  ∀(r:List Int)(a:Int),(a::r).Pairwise (fun a b=>a<b)→(∀z,z∈C→z≤a∨z∈r)→∀d,memB (dA g (a::r)) d=(decide (a≤d∧d<sW a r)&&g d)
 |[],a,_,_,d=>by
  have:decide (a≤d∧d<sW a [])=false:=by grind[sW]
  rw[this];rfl
 | b::r,a,hp,hC,d=>by
  obtain⟨h1,h2⟩:=jx.1 hp;have hab:=h1 b (fW ..);obtain⟨hb2,h3⟩:=jx.1 h2;have hl:=(zL h2).1;have ih:=Fb hg r b h2 (fun z hz=>by grind) d;have hc:∀d,a≤d→d<b→g d=g a:=hg a b fun z hz=>by grind
  have e0:memB (dA g (a::b::r)) d=((g a&&decide (a≤d∧d<b))||memB (dA g (b::r)) d):=by
   rw[n7];cases g a with
   |true=>rw[eh,Bool.true_and]
   |false=>simp_all
  rw[e0,ih,show sW a (b::r)=sW b r from rfl];grind
def iy(A:List PSpan):List Int:=am (bX (px A))
theorem Lc(A:List PSpan):(iy A).Pairwise (fun a b=>a<b)∧∀z,z∈iy A↔z∈px A:=by
 obtain⟨h1,h2⟩:=tQ (oL (px A));exact⟨h1,fun z=>(h2 z).trans (ji (px A)).mem_iff⟩
theorem zn{A l:List PSpan}(hl:∀s,s∈l→s∈A){x y:Int}(hz:∀z,z∈iy A→z≤x∨y≤z){d:Int}(h1:x≤d)(h2:d<y):memB l d=memB l x:=by
 have key:∀s,s∈l→((s.from_≤d∧d<s.to)↔(s.from_≤x∧x<s.to)):=fun s hs=>by
  obtain⟨k1,k2⟩:=G2 (hl s hs);grind[Lc]
 rw[Dj,jv,jv];grind
theorem L8{op:Bool→Bool→Bool}(h0:op false false=false)(A B:List PSpan)(d:Int):memB (dA (fun d=>op (memB A d) (memB B d)) (iy (A++B))) d=op (memB A d) (memB B d):=by
 obtain⟨h1,h2⟩:=Lc (A++B);have out:∀(z1 z2:Int),(∀z,z∈iy (A++B)→z1≤z∧z≤z2)→¬(z1≤d∧d<z2)→op (memB A d) (memB B d)=false:=fun z1 z2 hz hd=>by
  have no:∀l:List PSpan,(∀s,s∈l→s∈A++B)→memB l d=false:=fun l hl=>by
   cases q:memB l d with
   |false=>rfl
   |true=>
    obtain⟨s,k1,k2,k3⟩:=jv.1 q;obtain⟨k4,k5⟩:=G2 (hl s k1);grind
  simp_all
 cases hC:iy (A++B)with
 |nil=>
  rw[dA,mG];exact(out (d+1) d (fun z hz=>by grind) (by omega)).symm
 | cons a r=>
  rw[hC]at h1;have hl:=zL h1;have hp:=(jx.1 h1).1;rw[Fb (C:=iy (A++B)) (fun x y hz d h3 h4=>by
   show op (memB A d) (memB B d)=op (memB A x) (memB B x)
   rw[zn (A:=A++B) (fun s hs=>wU _ hs) hz h3 h4,zn (A:=A++B) (fun s hs=>EM _ hs) hz h3 h4]) r a h1 (fun z hz=>by
   grind) d]
  by_cases q:a≤d∧d<sW a r;all_goals grind
theorem As(A:List PSpan):(iy A).length≤2*A.length:=by
 have:=xj (bX (px A));have h2:=(ji (px A)).length_eq;grind[kq,iy]
theorem CU{g:Int→Bool}{C:List Int}{x:Nat}(h1:1≤x)(h2:x<C.length):dA g (C.drop (x-1))=match g (gD C (x-1))with|true=>⟨gD C (x-1),gD C x⟩::dA g (C.drop (x+1-1))|false=>dA g (C.drop (x+1-1)):=by grind[yk,n7]
theorem kS{g:Int→Bool}{C:List Int}{x:Nat}(h1:1≤x)(h2:C.length≤x):dA g (C.drop (x-1))=[]:=by
 have:(C.drop (x-1)).length≤1:=by simp_all
 match C.drop (x-1),this with
 |[],_=>rfl
 |[_],_=>rfl
 |_::_::_,h=>simp_all
noncomputable def sq(op:Bool→Bool→Bool)(a b:List PSpan):List PSpan:=nf fun d=>op (memB a d) (memB b d)
theorem jH(l:List PSpan):NrmS (fm l):=zf _
theorem Ch(l:List PSpan)(d:Int):memB (fm l) d=(OY d&&memB l d):=Ir _ d
theorem NP{op:Bool→Bool→Bool}(h0:op false false=false){a b A B:List PSpan}(hA:fm a=A)(hB:fm b=B):fm (dA (fun d=>op (ip A d) (ip B d)) (iy (A++B)))=sq op a b:=by
 have nA:NrmS A:=hA▸jH a;have nB:NrmS B:=hB▸jH b;have e:(fun d=>op (ip A d) (ip B d))=fun d=>op (memB A d) (memB B d):=funext fun d=>by grind[Tc]
 rw[e];unfold fm sq;refine PS fun d hd=>?_
 rw[L8 h0,←hA,←hB,Ch,Ch,hd,Bool.true_and,Bool.true_and]
end Go.Ev
namespace Go.Ev
open Go
section
variable{H:Type}{enc:TypeId×Value→H}{P:Program}{w:World}{base:Nat}{spare:Nat→Bool}{held:Bool}
inductive VL(M:du):List AV→List Value→Prop
 |nil:VL M [] []
 |cons {x:AV} {v:Value} {xs:List AV} {vs:List Value} (h:VRel (fun _=>none) M x v) (t:VL M xs vs):VL M (x::xs) (v::vs)
theorem VL.append{M:du}{xs ys:List AV}{a b:List Value}(h:VL M xs a)(k:VL M ys b):VL M (xs++ys) (a++b):=by
 induction h with
 |nil=>grind
 |cons h _ ih=>exact .cons h ih
theorem VL.at_{M:du}{xs:List AV}{a:List Value}(h:VL M xs a):∀(j:Nat)(y:AV),xs[j]?=some y→∃v,a[j]?=some v∧VRel (fun _=>none) M y v:=by
 induction h with
 |nil=>simp_all
 |cons h _ ih=>grind
theorem VL.one{M:du}{x:AV}{cs:List Value}(h:VL M [x] cs):∃v,cs=[v]∧VRel (fun _=>none) M x v:=by
 cases h with
 |cons h t=>cases t;simp_all
def Wt(P:Program)(t:TypeId)(d:DataW H):Prop:=∀m,m∈d.weights P t→m≤reachBytes
theorem qX{e:TypeId}{d:DataW H}{m:Nat}(hm:m∈d.weights P e):∀{l:List (DataW H)},d∈l→m∈DataW.weightsAll P e l
 |[],h=>by grind
 |a::r,h=>by
  unfold DataW.weightsAll;rcases fD.1 h with rfl|h
  ·simp_all
  ·exact EM _ (qX hm h)
theorem je{t:TypeId}{d:DataW H}{m:Nat}(hm:m∈d.weights P t):∀{ts:List TypeId}{l:List (DataW H)}(i:Nat),ts[i]?=some t→l[i]?=some d→m∈DataW.weightsEach P ts l
 |[],_,i,h,_=>by simp_all
 |_::_,[],i,_,h=>by simp_all
 |u::ts,a::r,i,h1,h2=>by
  unfold DataW.weightsEach;cases i with
  |zero=>simp_all
  |succ i=>exact EM _ (je hm i (by simp_all) (by simp_all))
def Ea(P:Program):List Field→Nat→Nat→Bool
 |[],off,n=>Nat.beq off n
 |f::r,off,n=>Nat.beq f.offset off&&Ea P r (off+P.cellsOf f.type) n
def VF(M:du)(P:Program)(cs:List Value):List Field→List (List AV)→Prop
 |[],[]=>True
 |f::fs,xs::xss=>VL M xs ((cs.drop f.offset).take (P.cellsOf f.type))∧VF M P cs fs xss
 |_,_=>False
theorem VF.vl{M:du}{cs:List Value}:∀{fs:List Field}{xss:List (List AV)}{off:Nat},Ea P fs off cs.length=true→VF M P cs fs xss→VL M xss.flatten (cs.drop off)
 |[],[],off,h,_=>by
  have:=pf h;rw[this,List.drop_length];exact .nil
 |[],_::_,_,_,h=>h.elim
 |_::_,[],_,_,h=>h.elim
 |f::fs,xs::xss,off,h,k=>by
  unfold Ea at h;rw[bx]at h;have ho:=pf h.1;have h1:=k.1;rw[ho]at h1;have h2:=VF.vl h.2 k.2;have e:cs.drop off=(cs.drop off).take (P.cellsOf f.type)++cs.drop (off+P.cellsOf f.type):=by grind[List.drop_drop,List.take_append_drop]
  rw[List.flatten_cons,e];exact h1.append h2
def TF(enc:TypeId×Value→H)(P:Program)(w:World)(base:Nat)(spare:Nat→Bool)(held:Bool)(n:Nat)(cs:List Value):List Field→Prop
 |[]=>True
 |f::fs=>(∃d p,DataW.trod enc P w base spare held n f.type ((cs.drop f.offset).take (P.cellsOf f.type))=some (d,p)∧Wt P f.type d)∧TF enc P w base spare held n cs fs
theorem Vr{n:Nat}{cs:List Value}:∀(fs:List Field),(∀(i:Nat)(f:Field),fs[i]?=some f→∃d p,DataW.trod enc P w base spare held n f.type ((cs.drop f.offset).take (P.cellsOf f.type))=some (d,p)∧Wt P f.type d)→TF enc P w base spare held n cs fs
 |[],_=>trivial
 |f::fs,h=>⟨h 0 f rfl,Vr fs fun i g hg=>h (i+1) g (by simp_all)⟩
theorem iN{t:TypeId}{fs:Array Field}{fuel:Nat}{cs:List Value}{d:DataW H}{p:List MemPlace}(hu:P.underlying t=some (.struct fs))(hc:Ea P fs.toList 0 (P.cellsOf t)=true)
  (h:DataW.trod enc P w base spare held fuel t cs=some (d,p))(hw:Wt P t d):
  ∃n,fuel=n+1∧TF enc P w base spare held n cs fs.toList∧∀xss,VF (cK w) P cs fs.toList xss→VL (cK w) xss.flatten cs:=by
 obtain⟨xs,n,rfl,h1,h2,h3,h4⟩:=DataW.trod_struct hu h;simp only[rL]at h1;obtain⟨rfl,_⟩:=h1;refine⟨n,rfl,Vr _ fun i f hf=>?_,fun xss hx=>?_⟩
 ·have hf':fs[i]?=some f:=by simp_all
  have hi:i<xs.length:=by grind
  have e:=h4 i f hf';rw[lu hi]at e;refine⟨xs[i].1,xs[i].2,e,fun m hm=>hw m ?_⟩;unfold DataW.weights;rw[hu];exact je hm i (by simp_all) (by grind)
 ·have:=VF.vl (off:=0) (by simp_all) hx;simp_all
theorem gm{t:TypeId}{fuel:Nat}{cs:List Value}{d:DataW H}{p:List MemPlace}(hu:P.underlying t=some (.int .i64))(h:DataW.trod enc P w base spare held fuel t cs=some (d,p)):∃x,VL (cK w) [.int .i64 x] cs:=by
 obtain⟨x,rfl,_⟩:=DataW.trod_int hu h;exact⟨x,.cons (.int _ _) .nil⟩
theorem nE{t:TypeId}{fuel:Nat}{cs:List Value}{d:DataW H}{p:List MemPlace}(hu:P.underlying t=some .string)(h:DataW.trod enc P w base spare held fuel t cs=some (d,p)):∃s,VL (cK w) [.str s] cs:=by
 obtain⟨⟨⟨s⟩⟩,rfl,_⟩:=DataW.trod_string hu h;exact⟨s,.cons (.str _) .nil⟩
theorem KM{α:Type}{Q:Nat→α→Prop}:∀(n:Nat),(∀i,i<n→∃x,Q i x)→∃l:List α,l.length=n∧∀i x,l[i]?=some x→Q i x
 |0,_=>⟨[],rfl,fun i x h=>by simp_all⟩
 |n+1,h=>by
  obtain⟨l,h1,h2⟩:=KM n fun i hi=>h i (by omega)
  obtain⟨y,hy⟩:=h n (by omega);refine⟨l++[y],by simp_all,fun i x hx=>?_⟩;grind
theorem ZU{x:AV}(h:x.cells.all cP=true):Sc x:=fun y hy=>md.1 h y hy
theorem IV{α:Type}(el:α→AV)(fit:α→Prop){t e:TypeId}{fuel:Nat}{cs:List Value}{d:DataW H}{p:List MemPlace}(hu:P.underlying t=some (.slice e))(hsz:Nat.blt 0 (P.cellsOf e)=true)(hby:Nat.blt 0 (P.bytesOf e)=true)
  (hel:∀x,(el x).cells.length=P.cellsOf e)(hsc:∀x,(el x).cells.all cP=true)(htop:∀x,(el x).top=0)
  (hrec:∀m,m<fuel→∀cs d p,DataW.trod enc P w base spare held m e cs=some (d,p)→Wt P e d→∃x,fit x∧VL (cK w) (el x).cells cs)
  (h:DataW.trod enc P w base spare held fuel t cs=some (d,p))(hw:Wt P t d):
  ∃l:List α,l.length<2^47∧(∀x,x∈l→fit x)∧VL (cK w) [.ls (l.map el)] cs:=by
 rw[dn]at hsz hby;simp only[decide_eq_true_eq]at hsz hby;rcases DataW.trod_slice hu h with⟨rfl,_⟩|⟨a,len,cap,elems,rest,n,rfl,rfl,h1,h2,h3,h4,h5,h6,_,_⟩
 ·exact⟨[],Nat.two_pow_pos 47,fun x h=>absurd h (List.not_mem_nil),.cons .lsn .nil⟩
 ·simp only[rL]at h1;obtain⟨rfl,_⟩:=h1;have hwl:len<2^47:=by
   have:=hw ((elems.length+rest.length)*P.bytesOf e) (by grind[DataW.weights]);have h7:elems.length≤(elems.length+rest.length)*P.bytesOf e:=b0 (Nat.le_add_right _ _) (Nat.le_mul_of_pos_right _ hby);have:elems.length≤reachBytes:=b0 h7 this;rw[h5]at this;exact l0 this (by decide)
  have el0:∀i,i<len→∃x,fit x∧∃cs:List Value,cs.length=P.cellsOf e∧(∀j,j<P.cellsOf e→w.cell? ((a.add (i*P.cellsOf e)).add j)=cs[j]?)∧VL (cK w) (el x).cells cs:=by
   intro i hi;have k5:=h6 i hi;have hi':i<elems.length:=by omega
   rw[lu hi']at k5;simp only[Option.bind_eq_some_iff]at k5;obtain⟨cs,c1,c2⟩:=k5;obtain⟨z1,z2⟩:=C9 c1;obtain⟨x,f1,f2⟩:=hrec n (by omega) cs elems[i].1 elems[i].2 c2 (fun m hm=>hw m (by
    unfold DataW.weights;rw[hu];exact fJ _ (wU _ (qX hm (ka.2 ⟨elems[i],Dx hi',rfl⟩)))))
   grind
  obtain⟨l,q1,q2⟩:=KM len el0;refine⟨l,by omega,fun x hx=>?_,.cons ?_ .nil⟩
  ·obtain⟨i,hi⟩:=ET.1 hx;grind
  ·have q1':(l.map el).length=len:=by simp_all
   generalize hys:l.map el=ys at *;have q3:∀i y,ys[i]?=some y→∃cs:List Value,cs.length=P.cellsOf e∧(∀j,j<P.cellsOf e→w.cell? ((a.add (i*P.cellsOf e)).add j)=cs[j]?)∧VL (cK w) y.cells cs:=by grind
   have q4:∀y,y∈ys→y.cells.length=P.cellsOf e∧Sc y:=by grind[ZU]
   have q5:ax ys=0:=by grind[aZ]
   have addadd:∀i j:Nat,a.spot=none→(a.add i).add j=⟨a.block,a.off+i+j,none⟩:=by
    intro i j hs;obtain⟨blk,off,spot⟩:=a;grind[Addr.add]
   have spot:ys≠[]→a.spot=none:=by
    intro hne;obtain⟨x,hx⟩:∃x,ys[0]?=some x:=by
     cases ys with
     |nil=>simp_all
     |cons x r=>exact⟨x,rfl⟩
    grind[ri,Addr.add]
   have cell:∀(i j:Nat)(x:AV),ys[i]?=some x→j<P.cellsOf e→∃c v,cK w a.block=some c∧c[a.off+i*P.cellsOf e+j]?=some v∧∀y,x.cells[j]?=some y→VRel (fun _=>none) (cK w) y v:=by
    intro i j x hx hj;obtain⟨cs,c1,c2,c3⟩:=q3 i x hx;have:=c2 j hj;rw[lu (by omega),addadd _ _ (spot (by grind))]at this;obtain⟨_,c,m1,m2⟩:=ri this;refine⟨c,_,m1,m2,fun y hy=>?_⟩;obtain⟨v,g1,g2⟩:=c3.at_ j y hy;simp_all
   refine .lsp ?_ q5;by_cases hne:ys=[]
   ·subst hne;simp at q1';subst q1';exact .ps (sz:=P.cellsOf e) (c:=#[]) (by simp) (fun h=>by grind) (fun h=>absurd rfl h) (fun x h=>by simp_all) (fun i x j y h=>by simp_all)
   ·have hlen:0<ys.length:=pS.2 hne;obtain⟨x0,hx0⟩:∃x,ys[ys.length-1]?=some x:=⟨ys[ys.length-1],by simp⟩
    obtain⟨c,v0,m1,m2,_⟩:=cell (ys.length-1) (P.cellsOf e-1) x0 hx0 (by omega);have hc:=(wq.1 m2).1;have hfit:a.off+ys.length*P.cellsOf e≤c.size:=by
     have h1:(ys.length-1)*P.cellsOf e+P.cellsOf e=ys.length*P.cellsOf e:=by rw[←qQ];grind
     omega
    have:=VRel.ps (pl:=fun _=>none) (M:=cK w) (xs:=ys) (tight:=false) (a:=a) (cap:=cap) (sz:=P.cellsOf e) (c:=c) (by omega) (fun h=>by grind) (fun _=>⟨spot hne,m1,hfit,hsz⟩) q4
     (fun i x j y hx hy=>by
      obtain⟨r1,_⟩:=q4 x (bi hx);have hj:j<P.cellsOf e:=by grind
      obtain⟨c',v,n1,n2,n3⟩:=cell i j x hx hj;simp_all)
    simp_all
theorem lZ{α:Type}(el:α→AV)(fit:α→Prop){t e:TypeId}{fuel:Nat}{cs:List Value}{d:DataW H}{p:List MemPlace}(hu:P.underlying t=some (.slice e))(hsz:Nat.blt 0 (P.cellsOf e)=true)(hby:Nat.blt 0 (P.bytesOf e)=true)
  (hel:∀x,(el x).cells.length=P.cellsOf e)(hsc:∀x,(el x).cells.all cP=true)(htop:∀x,(el x).top=0)
  (hrec:∀m,m<fuel→∀cs d p,DataW.trod enc P w base spare held m e cs=some (d,p)→Wt P e d→∃x,fit x∧VL (cK w) (el x).cells cs)
  (h:DataW.trod enc P w base spare held fuel t cs=some (d,p))(hw:Wt P t d):
  ∃l:List α,l.length<2^60∧(∀x,x∈l→fit x)∧VL (cK w) [.ls (l.map el)] cs:=by
 have⟨l,h1,h2⟩:=IV el fit hu hsz hby hel hsc htop hrec h hw;grind
end
end Go.Ev
namespace Go.Ev
open Go
structure PPair where
 a:Int
 b:Int
deriving Inhabited,DecidableEq
structure PRef where
 act:Int
 item:Int
deriving Inhabited,DecidableEq
def nq(u:TUnit):List PWord:=u.head++u.words
mutual
def m8:TUnit→List PWord
 |⟨_,_,_,_,_,h,w,ks⟩=>(h++w)++ki ks
def ki:List TUnit→List PWord
 |[]=>[]
 |k::r=>m8 k++ki r
end
theorem LA(u:TUnit):m8 u=nq u++ki u.kids:=by obtain⟨a,b,c,d,e,h,w,ks⟩:=u;rw[m8];rfl
theorem Dq:ki []=[]:=by rw[ki]
theorem tZ(k:TUnit)(r:List TUnit):ki (k::r)=m8 k++ki r:=by rw[ki]
theorem ry{k:Int}:∀{m:List (Int×Int)},gP k m=none→¬k∈m.map (·.1)
 |[],_=>by simp
 | (i,x)::r,h=>by
  simp only[gP]at h;cases e:al k i with
  |true=>grind
  |false=>
   rw[e]at h;have:=ry h;grind[GT]
section
variable{u w':TUnit}{ws:List PWord}{w:PWord}{r:List PWord}{ks:List TUnit}{m x:List (Int×Int)}{c B:Int}
end
theorem VRel.ls0{pl:Pl}{M:du}{x:Value}(h:VRel pl M (.ls []) x):VRel pl M .nils x∨VRel pl M (.ps [] false) x:=by
 cases h with
 |lsn=>exact .inl .nils
 |lsp h _=>simp_all
theorem EG{P:Program}{G:eD}{f:FuncId}{a b c:List AV}{h:AHeap}{Ψ:AV→AHeap→Prop}(hs:∀pl M vs,VRels pl M c vs→VRels pl M a vs∨VRels pl M b vs)(h1:aL P G f a h Ψ)(h2:aL P G f b h Ψ):aL P G f c h Ψ:=fun pl M w vs hg hr hv=>(hs pl M vs hv).elim (h1 pl M w vs hg hr) (h2 pl M w vs hg hr)
theorem VRels.first{pl:Pl}{M:du}{x y z:AV}{r:List AV}{vs:Array Value}(h:VRels pl M (z::r) vs)(hs:∀v,VRel pl M z v→VRel pl M x v∨VRel pl M y v):VRels pl M (x::r) vs∨VRels pl M (y::r) vs:=by
 obtain⟨h1,h2⟩:=h;have lift:∀u,VRel pl M u (vs.getD 0 undef)→VRels pl M (u::r) vs:=fun u hu=>⟨h1,fun j y hj=>by
  cases j with
  |zero=>grind
  |succ j=>simp_all⟩
 exact(hs _ (h2 0 z rfl)).imp (lift x) (lift y)
end Go.Ev
namespace Go.Ev
open Go
theorem aD{n b m:Nat}(h1:n≤m)(h2:m≤2^40)(h3:m*b≤2^40):small n b=true:=by
 unfold small;have h4:n*b≤m*b:=eu b h1;grind[Nat.ble_eq_true_of_le]
def Yz(d:Int):List Int→List Int
 |[]=>[d]
 |x::r=>bif aF x d then x::Yz d r else bif al x d then x::r else d::x::r
def gF(ws:List PWord)(l:List Int):List Int:=ws.foldl (fun l w=>Yz w.act l) l
end Go.Ev
namespace Go.Ev
open Go
def SM{α:Type}:Result α→World
 | .ok _ w=>w
 | .halt _ w=>w
def gW:GStep→World
 | .go _ w _=>w
 | .comm _ _ _ _ w _=>w
 | .spawn _ _ w _=>w
 | .count _ w _=>w
 | .timer _ _ w _=>w
 | .alone _ _ w _=>w
 | .newcoro _ _ _ w _=>w
 | .coroswitch _ _ _ w _=>w
 | .collect _ w _=>w
 | .watch _ w _=>w
 | .ended _ w _=>w
theorem lU(es:Array Event)(g:GStep):gW (GStep.after es g)=gW g:=by cases g<;>rfl
theorem Jd{α:Type}:∀(q:Ask α)(w:World),w.drawn≤(w.ask q).2.drawn
 | .done a,w=>ao _
 | .ask what range k,w=>by
  rw[World.ask];split
  ·exact Jd (k 0) w
  ·exact b0 (n4 _) (Jd _ {w with drawn:=w.drawn+1})
theorem ON(w:World)(c:Sys):w.drawn≤(w.sys c).2.drawn:=by
 unfold World.sys;have h:=Jd (Kernel.perform c w.os) w;grind
theorem xh{p:Program}{w w':World}{at_:Addr}{u:TypeId}{k:Addr}{v:Value}{b:Bool}{l:List Addr}(h:w.viewStore p at_ u k v b=.ok (w',l)):w'.drawn=w.drawn:=by
 unfold World.viewStore at h;simp only[bind,Except.bind,pure,Except.pure]at h
 repeat' split at h
 all_goals first|cases h;done|(injection h with h;injection h with h1 h2;rw[←h1])
theorem Ac{p:Program}{w w':World}{a:Addr}{v:Value}{b:Bool}{l:List Addr}(h:w.farStore p a v b=.ok (w',l)):w'.drawn=w.drawn:=by
 unfold World.farStore at h
 repeat' split at h
 all_goals first|cases h;done|grind[xh]
theorem EZ(w:World)(a:Addr)(n:Nat):(w.freeze a n).drawn=w.drawn:=by unfold World.freeze;grind
theorem PJ(p:Program){α:Type}(s:Sem α):∀(w:World),w.drawn≤(SM (s.run p w)).drawn:=by
 induction s with
 |pure a=>exact fun w=>ao _
 |load m a k ih=>
  intro w;simp only[Sem.run]
  repeat' split
  all_goals first|exact ih _ _|exact ao _
 | store m a v k ih=>
  intro w;cases v
  all_goals simp only[Sem.run]
  all_goals first
   |exact ao _
   |((repeat' split);all_goals first|exact ao _|exact ih (w.setCell _ _)|(rename_i e;refine b0 ?_ (ih _);rw[Ac e];exact ao _))
 |new o k ih=>grind[Sem.run]
 |shape r k ih=>grind[Sem.run]
 |freeze a n k ih=>intro w;simp only[Sem.run];refine b0 ?_ (ih _);simp_all[EZ]
 |frozen a k ih=>grind[Sem.run]
 |getObj r k ih=>
  intro w;simp only[Sem.run]
  repeat' split
  all_goals first|exact ih _ _|exact ao _
 |setObj r o k ih=>
  intro w;simp only[Sem.run]
  repeat' split
  all_goals first|exact ih {w with heap:=w.heap.setIfInBounds r o}|exact ao _
 |choose q k ih=>
  intro w;simp only[Sem.run];grind
 |sys c k ih=>grind[Sem.run,ON]
 |program k ih=>grind[Sem.run]
 |mark m k ih=>grind[Sem.run]
 |halt h=>exact fun w=>ao _
theorem cL{p:Program}{α:Type}{s:Sem α}{w:World}{r:Result α}(h:s.run p w=r):w.drawn≤(SM r).drawn:=h▸PJ p s w
theorem SH{p:Program}{α:Type}{s:Sem α}{w:World}{es es':Array Event}{r:Result α}(h:s.runT p w es=(r,es')):w.drawn≤(SM r).drawn:=by
 have:=Sem.runT_fst p s w es;rw[h]at this;exact cL this.symm
theorem JY(w:World)(fd:Nat)(text:ByteArray)(o:Outcome):w.drawn≤(gW (endWith w fd text o)).drawn:=by
 unfold endWith;simp only[];have h:=ON w (.write fd text);split;all_goals (rename_i e;rw[e]at h)
 all_goals repeat' split
 all_goals exact h
theorem xV(fr:Frame)(m:String)(w:World):w.drawn≤(gW (endThrow fr m w)).drawn:=ao _
theorem qB(p:Program)(fr:Frame)(v:Value)(w:World):w.drawn≤(gW (endPrinting p fr v w)).drawn:=by
 unfold endPrinting;simp only[]
 repeat' split
 all_goals exact ao _
theorem xY(p:Program)(fr:Frame)(cs:List Frame)(d:Option Dying)(m:String)(w:World):w.drawn≤(gW (endFatal p fr cs d m w)).drawn:=by
 unfold endFatal;simp only[];split;all_goals (rename_i e;exact cL e)
theorem HO(p:Program)(fr:Frame)(d:Dying)(f:Fatal)(w:World):w.drawn≤(gW (writeOn p fr d f w)).drawn:=by
 unfold writeOn;split
 ·exact ao _
 ·simp only[];split;all_goals (rename_i e;exact SH e)
theorem XX(p:Program)(fr:Frame)(d:Dying)(w:World):w.drawn≤(gW (die p fr d w)).drawn:=by
 unfold die;split
 ·grind[HO]
 ·split
  ·split
   ·exact ao _
   grind[JY]
  ·simp only[];split
   ·exact ao _
   ·split;all_goals (rename_i e;exact cL e)
   ·rw[lU];split;all_goals first|(rename_i e;exact cL ((Sem.runT_fst ..).symm.trans e))|skip
    ·rename_i e;exact b0 (cL ((Sem.runT_fst ..).symm.trans e)) (qB ..)
    ·exact ao _
   ·exact ao _
theorem qD(p:Program)(main:Bool)(fr:Frame)(cs:List Frame)(d:Option Dying)(v:Value)(w:World):w.drawn≤(gW (doReturn p main fr cs d v w)).drawn:=by
 unfold doReturn
 repeat' split
 all_goals exact ao _
theorem sP{c:Prop}[Decidable c]{a b:GStep}{n:Nat}(h1:n≤(gW a).drawn)(h2:n≤(gW b).drawn):n≤(gW (if c then a else b)).drawn:=by grind
theorem xB(p:Program)(fr:Frame)(cs:List Frame)(dy:Option Dying)(d:Deferred)(w:World):w.drawn≤(gW (callDeferred p fr cs dy d w)).drawn:=by
 unfold callDeferred;refine sP ?_ ?_
 ·exact ao _
 ·simp only[];rw[lU];split;all_goals (rename_i e;have h:=cL ((Sem.runT_fst ..).symm.trans e))
  all_goals first|exact h|exact b0 h (xY ..)|((repeat' split)<;>exact h)
theorem LM(p:Program)(main:Bool)(fr:Frame)(cs:List Frame)(dy:Option Dying)(w:World):w.drawn≤(gW (unwind p main fr cs dy w)).drawn:=by
 unfold unwind;split
 ·simp only[];rw[lU];split;all_goals (rename_i e;exact cL ((Sem.runT_fst ..).symm.trans e))
 ·grind[xB]
 ·split
  ·exact ao _
  ·split
   ·exact ao _
   ·split
    ·exact ao _
    ·split
     ·split
      ·exact ao _
      ·split;all_goals (rename_i e;exact cL e)
     ·split
      ·grind[qB]
      ·exact ao _
  ·split
   ·grind[qD]
   ·simp only[];rw[lU];split;all_goals (rename_i e;have h:=cL ((Sem.runT_fst ..).symm.trans e))
    all_goals first|exact h|exact b0 h (qD ..)
theorem Rq(p:Program)(fr:Frame)(cs:List Frame)(dy:Option Dying)(g:Nat)(w:World):w.drawn≤(gW (early p fr cs dy g w)).drawn:=by
 unfold early;simp only[]
 repeat' split
 all_goals first|exact ao _|(rename_i e;exact cL e)|(rename_i e _;exact cL e)|(rename_i e _ _;exact cL e)|(rename_i e _ _ _ _;exact cL e)
theorem uO(p:Program)(listen:Bool)(fr:Frame)(cs:List Frame)(dy:Option Dying)(s:Sem Next)(w:World):w.drawn≤(gW (stepG.apply p listen fr cs dy s w)).drawn:=by
 unfold stepG.apply;simp only[];rw[lU];have h0:w.drawn≤(SM (if listen=true then Sem.runT p s w #[]else(Sem.run p s w,#[])).fst).drawn:=by
  cases listen
  ·grind[PJ]
  ·exact cL (Sem.runT_fst ..).symm
 generalize (if listen=true then Sem.runT p s w #[]else(Sem.run p s w,#[])).fst=r at h0 ⊢;split;all_goals first|exact h0|exact b0 h0 (xY ..)|exact b0 h0 (Rq ..)|exact b0 h0 (xV ..)|skip
 all_goals repeat' split
 all_goals first|exact h0|exact b0 h0 (xV ..)|skip
theorem TW(p:Program)(listen:Bool)(fr:Frame)(cs:List Frame)(dy:Option Dying)(w:World):w.drawn≤(gW (stepG.oper p listen fr cs dy w)).drawn:=by
 unfold stepG.oper;split
 ·exact ao _
 ·split;all_goals exact uO ..
theorem Ux(p:Program)(main listen:Bool)(fr:Frame)(cs:List Frame)(dy:Option Dying)(w:World):w.drawn≤(gW (stepG.exec p main listen fr cs dy w)).drawn:=by
 have lv:∀(l:Nat)(jump:Option Code),w.drawn≤(gW (GStep.after (seen p fr.fn ((Instr.endRound l jump).runT p w #[]).snd) (match((Instr.endRound l jump).runT p w #[]).fst with| .ok v w=>doReturn p main fr cs dy v w| .halt _ w=>.ended (.stuck "range over a function: no such loop" (fr.pos p)) w))).drawn :=by
  intro l jump;rw[lU];have h0:=cL (Sem.runT_fst p (Instr.endRound l jump) w #[]).symm;split;all_goals (rename_i e;rw[e]at h0)
  ·exact b0 h0 (qD ..)
  ·exact h0
 unfold stepG.exec;simp only[];split;all_goals first|exact ao _|exact uO .. |skip
 ·split
  ·exact sP (ao _) (ao _)
  grind
 ·split
  ·exact sP (ao _) (ao _)
  grind
 ·split<;>exact ao _
 ·rename_i id k _;cases exitTo id k with
  |none=>simp only[Option.elim];split;exact sP (ao _) (ao _);grind
  |some k'=>exact ao _
 ·rename_i id k _;cases gotoIn id k with
  |none=>simp only[Option.elim];split;exact sP (ao _) (ao _);grind
  |some k'=>exact ao _
 ·rw[lU];split
  ·rename_i e;exact b0 (cL ((Sem.runT_fst ..).symm.trans e)) (uO ..)
  ·rename_i e;exact cL ((Sem.runT_fst ..).symm.trans e)
 ·rw[lU];split<;>rename_i e<;>exact cL ((Sem.runT_fst ..).symm.trans e)
 ·rename_i row _ _ _;cases Extern.next row with
  |none=>exact ao _
  |some e=>grind[uO]
 ·refine sP (ao _) ?_;split<;>rename_i e<;>exact cL e
 ·exact sP (TW ..) (ao _)
theorem OR(p:Program)(main listen:Bool)(g:Goroutine)(w:World):w.drawn≤(gW (stepG p main g w listen)).drawn:=by
 unfold stepG;grind[XX,Ux,LM]
def sD(n:Nat):Stepped→Prop
 | .next m=>n≤m.world.drawn
 | .ended _ _=>True
theorem sD.trans{n k:Nat}{s:Stepped}(h:n≤k)(g:sD k s):sD n s:=by
 cases s with
 |next m=>exact b0 h g
 |ended o w=>trivial
theorem Qx{c:Prop}[Decidable c]{a b:Stepped}{n:Nat}(h1:sD n a)(h2:sD n b):sD n (if c then a else b):=by grind
theorem KL(p:Program)(gs:Array Goroutine)(rest:Rest)(w:World):sD w.drawn (look p gs rest w):=by
 unfold look;simp only[];split
 ·refine Qx trivial ?_;split
  ·trivial
  ·split<;>rename_i e<;>first|exact cL e|trivial
 ·trivial
theorem xg{rest:Rest}{cases:Array CommCase}{w w':World}(h:waitingAt rest cases w=some w'):w'.drawn=w.drawn:=by
 unfold waitingAt at h
 repeat' split at h
 all_goals first|(cases h;done)|(cases h;rfl)
theorem DT{c:Prop}[Decidable c]{a b:Stepped×Array MemOp}{n:Nat}(h1:sD n a.1)(h2:sD n b.1):sD n (if c then a else b).1:=by grind
theorem AB(p:Program)(rest:Rest)(gs:Array Goroutine)(i:Nat)(g:Goroutine)(cs:Array CommCase)(bl:Bool)(sh:CommShape)(w:World):sD w.drawn (communicate p rest gs i g cs bl sh w).1:=by
 unfold communicate;simp only[];refine DT trivial (DT (DT ?_ (ao _)) ?_)
 ·split
  ·rename_i e;exact tV (xg e).symm
  ·trivial
 ·split
  ·trivial
  ·rename_i w1 e;have h:w.drawn≤w1.drawn:=cL e;clear e;split
   ·split
    ·rename_i e;exact b0 h (cL e)
    ·trivial
   ·exact h
   ·exact h
   ·split
    ·exact h
    ·split
     ·rename_i e;exact b0 h (cL e)
     ·trivial
   ·exact h
   ·exact h
   ·trivial
theorem O9(p:Program)(m:Machine)(k:Nat):sD m.world.drawn (serve p m k):=by
 unfold serve;split
 ·trivial
 ·exact ao _
 ·simp only[];split
  ·trivial
  ·exact ao _
theorem Bj{m m':Machine}{op:TimerOp}{v:Value}(h:timerOp m op=.ok (v,m')):m'.world.drawn=m.world.drawn:=by
 have rt:∀(m:Machine)(k:Nat)(t:Timer)(a b:Nat),(retime m k t a b).2.world.drawn=m.world.drawn:=by
  intro m k t a b;unfold retime drain;grind
 cases op with
 |new t=>
  simp only[timerOp]at h
  repeat' split at h
  all_goals first|(cases h;done)|(cases h;rfl)
 |stop var=>
  simp only[timerOp,timerOp.named]at h;grind
 | reset var a b=>
  simp only[timerOp,timerOp.named,timerOp.opened]at h;split at h
  ·rename_i e;have e2:∀m2:Machine,(if waitedFor m var=true then match Kernel.withPoller m.world.os with| .ok os=>some {m with world:={m.world with os}}| .error _=>none else some m)=some m2→m2.world.drawn=m.world.drawn:=by
    intro m2 e
    repeat' split at e
    all_goals first|(cases e;done)|(cases e;rfl)
   grind
  ·grind
 |deadline a b c d=>simp only[timerOp]at h;cases h;rfl
theorem SG(p:Program)(m:Machine)(i:Nat)(b:Bool):sD m.world.drawn (runT p m i b).1:=by
 unfold runT;simp only[];have h:=OR p (i==0) b (m.gs.swapAt! i {(default:Goroutine)with status:=.finished}).1 m.world;generalize stepG p (i==0) (m.gs.swapAt! i {(default:Goroutine)with status:=.finished}).1 m.world b=s at h ⊢;cases s
 all_goals simp only[]
 all_goals try exact h
 all_goals try trivial
 ·exact sD.trans h (AB ..)
 ·exact Qx trivial h
 ·split
  ·rename_i e;exact b0 h (tV (Bj e).symm)
  ·split
   ·rename_i e;cases e;exact h
   ·trivial
  ·trivial
  ·trivial
 ·split
  ·exact h
  ·split
   ·rename_i e;cases e;exact h
   ·trivial
  ·trivial
 ·exact sD.trans h (KL ..)
def OK(n:Nat):Move→Prop
 | .goroutine m _=>n≤m.world.drawn
 | .machine s _=>sD n s
theorem OK.trans{n k:Nat}{s:Move}(h:n≤k)(g:OK k s):OK n s:=by
 cases s with
 |goroutine m i=>exact b0 h g
 |machine s o=>exact sD.trans h g
theorem A5(p:Program)(m:Machine):OK m.world.drawn (askOn p m):=by
 have pick:∀(m:Machine)(rs:List Nat),OK m.world.drawn (match(choose (.sched rs.length)).run p m.world with
   | .halt _ w=>.machine (.ended (.stuck "sched" "") w)
   | .ok k world=>
    if rs.length≤1 then .goroutine {m with world} (rs.getD k 0)else
    match(choose (.extern "sched.slice" 65536)).run p world with
    | .halt _ w=>.machine (.ended (.stuck "sched.slice" "") w)
    | .ok n world=>.goroutine {m with world,rest:={m.rest with slice:=if n=0 then none else some (rs.getD k 0,n)}} (rs.getD k 0)):=by
  intro m rs;split
  ·trivial
  ·rename_i w1 e;have h:m.world.drawn≤w1.drawn:=cL e;split
   ·exact h
   ·split
    ·trivial
    ·rename_i e;exact b0 h (cL e)
 unfold askOn;simp only[];split
 ·trivial
 ·rename_i k w1 e;have h:m.world.drawn≤w1.drawn:=cL e;clear e;split
  ·exact sD.trans h (O9 p {m with world:=w1} _)
  ·split
   ·split
    ·exact h
    ·split
     ·exact h
     ·split<;>trivial
   ·split
    ·exact OK.trans h (pick {m with world:=w1} _)
    ·split
     ·trivial
     ·rename_i w2 e;exact OK.trans (b0 h (cL e)) (pick {m with world:=w2} _)
     ·rename_i e;exact b0 h (cL e)
     ·rename_i k2 w2 e;exact OK.trans (b0 h (cL e)) (pick (Machine.advanceTo {m with world:=w2} _) _)
theorem Lr(p:Program)(m:Machine):OK m.world.drawn (ask p m):=by
 unfold ask;split
 ·split
  ·trivial
  ·rename_i w1 e;have h:m.world.drawn≤w1.drawn:=cL e;have h2:=KL p m.gs m.rest w1;split
   ·rename_i e2;rw[e2]at h2;exact OK.trans (b0 h h2) (A5 ..)
   ·exact sD.trans h h2
  ·rename_i w1 _ e;have h:m.world.drawn≤w1.drawn:=cL e;exact OK.trans h (A5 p {m with world:=w1})
 grind[A5]
theorem Tj(p:Program)(m:Machine):OK m.world.drawn (move p m):=by
 unfold move;split
 ·split
  ·exact ao _
  ·trivial
 ·split
  ·split
   ·exact ao _
   ·exact Lr p {m with rest:={m.rest with slice:=none}}
  grind[Lr]
theorem Sr(p:Program)(m:Machine):sD m.world.drawn (step p m):=by
 unfold step stepT;have h:=Tj p m;split
 ·rename_i e;rw[e]at h;exact sD.trans h (SG ..)
 ·rename_i e;rw[e]at h;exact h
theorem J6(p:Program):∀(n:Nat)(m m':Machine),runN p n m=.next m'→m.world.drawn≤m'.world.drawn
 |0,m,m',h=>by cases h;omega
 |n+1,m,m',h=>by
  rw[runN]at h;have h1:=Sr p m;split at h
  ·rename_i e;rw[e]at h1;exact b0 h1 (J6 p n _ _ h)
  simp_all
theorem OP{p:Program}{m m':Machine}(h:Steps p m m'):m.world.drawn≤m'.world.drawn:=by
 obtain⟨n,h⟩:=h;exact J6 p n m m' h
theorem Hf{p:Program}{f:FuncId}{args:Array Value}{w:World}{R:Ending→World→Prop}(h:Calls p f args w R):Calls p f args w fun e w'=>R e w'∧((∃v,e=.returned v)→w.drawn≤w'.drawn):=by
 intro cs;obtain⟨e,w',fr,h1,h2,h3,h4⟩:=h cs;refine⟨e,w',fr,⟨h1,?_⟩,h2,h3,h4⟩
 rintro⟨v,rfl⟩
 exact OP (m:=lone _ cs w) (m':=lone fr cs w') h2
end Go.Ev
namespace Go.Ev
open Go Go.RowKit
section
variable{P:Program}{G:eD}{pl:Pl}{M:du}{h:AHeap}{w w':World}{f:FuncId}{args:List AV}{v:AV}
theorem cM.below(hr:cM pl M h w)(hb:Below w.heap.size w w'):cM pl M h w':=
 ⟨hr.dom,fun id p o h1 h2=>by rw[hb.block _ (hr.blk id p h1)];exact hr.obj id p o h1 h2,fun id p h1=>ER (hr.blk id p h1) hb.size,hr.inj,
  fun b c h1=>by rw[hb.block _ (hr.memLt h1)];exact hr.imm b c h1,hr.sep⟩
theorem dZ.below(hb:Below w.heap.size w w')(hd:w.drawn≤w'.drawn):dZ h pl M w h pl M w':=⟨nK.refl _,fun _ _ h=>h,fun _ _ h=>h,hb.size,fun b h1 _=>hb.block b h1,fun id p h=>.inl ⟨p,h,rfl⟩,fun _ _ _ h=>h,fun _ _ h _=>h,fun _ _ h=>.inl h,hb.os,hb.tape,hb.output,hd⟩
theorem ar.below(hE:∀vs w,(callFunc f vs).run P w=.ok (.enter f vs) w)
  (hC:∀(pl:Pl)(M:du)(w:World)(vs:Array Value)(h:AHeap),pe G pl M→cM pl M h w→VRels pl M args vs→∃cv,VRel pl M v cv∧Calls P f vs w fun e w'=>e=.returned cv∧Below w.heap.size w w'):ar P G f args v:=by
 intro h pl M w vs hG hr hv;obtain⟨cv,h1,h2⟩:=hC pl M w vs h hG hr hv;refine .inl ⟨hE _ _,Calls.mono (Hf h2) fun e w' ⟨⟨he,hb⟩,hd⟩=>?_⟩;exact⟨cv,v,h,he,⟨rfl,rfl⟩,pl,M,h1,hr.below hb,dZ.below hb (hd ⟨_,he⟩),ao _⟩
theorem ar.calls(hGT:iL G)(hE:∀vs w,(callFunc f vs).run P w=.ok (.enter f vs) w)(hp:ar P G f args v)(hG:pe G pl M)(hr:cM pl M h w){vs:Array Value}(hv:VRels (fun _=>none) M args vs):
  Calls P f vs w fun e w'=>(∃cv pl' M',e=.returned cv∧VRel pl' M' v cv)∧Below w.heap.size w w'∧w.drawn≤w'.drawn:=by
 have r0:cM (fun _=>none) M AHeap.none w:=⟨fun _ _ h=>(by grind),fun _ _ _ h _=>(by grind),fun _ _ h=>(by grind),fun _ _ _ _ h _ _=>(by grind),hr.imm,fun _ _ h=>(by grind)⟩
 rcases hp AHeap.none (fun _=>none) M w vs (hG.none hGT) r0 hv with⟨_,h2⟩|⟨cv,w1,v1,h1,e1,_,_⟩
 ·refine Calls.mono h2 fun e w' ⟨cv,v1,h1,he,⟨e1,e2⟩,pl',M',g1,g2,g3,_⟩=>?_
  subst e1;exact⟨⟨cv,pl',M',he,g1⟩,⟨g3.os,g3.tape,g3.out,g3.size,fun b hb=>g3.kept b hb fun id p h=>(by grind)⟩,g3.drawn⟩
 ·grind
end
end Go.Ev
namespace Go.Ev
open Go
def Qf(lo hi:Int)(c:UInt8):Bool:=aw (aF (.ofNat c.toNat) lo||aF hi (.ofNat c.toNat))
abbrev kx:UInt8→Bool:=Qf 48 57
abbrev Xk:UInt8→Bool:=Qf 65 90
def ec(p:UInt8→Bool)(s:aP):Nat:=(s.takeWhile p).length
section
variable{p:UInt8→Bool}{s:aP}
theorem J7:ec p s≤s.length:=(List.takeWhile_prefix p).length_le
theorem J8:∀{s:aP}{i:Nat},i<ec p s→p (gD s i)=true
 |[],i,h=>by simp_all[ec]
 | c::r,i,h=>by
  cases hc:p c with
  |false=>simp_all[ec]
  |true=>
   cases i with
   |zero=>exact hc
   |succ i=>exact J8 (s:=r) (by simp_all[ec])
theorem Fh:∀{s:aP},ec p s<s.length→p (gD s (ec p s))=false
 |[],h=>by simp_all
 | c::r,h=>by
  cases hc:p c with
  |false=>simp[ec,hc,gD]
  |true=>
   have h2:ec p r<r.length:=by simp_all[ec]
   have:=Fh (s:=r) h2;simp_all[ec,gD]
theorem vc:∀{s:aP},ec p s=s.length↔s.all p=true
 |[]=>by simp[ec]
 |c::r=>by
  have ih:ec p r=r.length↔r.all p=true:=vc;cases hc:p c with
  |false=>simp[ec,hc]
  |true=>simp_all[ec]
end
theorem Ws{lo hi:Int}{c:UInt8}(h1:aF hi (.ofNat c.toNat)=true):Qf lo hi c=false:=by grind[Qf]
def kJ(s:aP):Bool:=aw (aF (.ofNat (s.take (ec kx s)).length) 1)&&(aw (aF 4 (.ofNat (s.take (ec kx s)).length))&&(aw (al (.ofNat (gD (s.take (ec kx s)) 0).toNat) 48)&&(aw (aF 3 (.ofNat (s.drop (ec kx s)).length))&&(s.drop (ec kx s)).all Xk)))
def rP(s:aP):Bool:=aw (aF (.ofNat s.length) 1)&&(aw (aF 24 (.ofNat s.length))&&s.all (Qf 33 126))
def qj(l:List aP):Bool:=aw (aF 256 (.ofNat l.length))&&l.all rP
theorem DO:({data:=#[]}:ByteArray).data.toList=([]:List UInt8):=rfl
theorem RV(s:aP):aF (.ofNat s.length) 1=eZ s []:=by cases s<;>rfl
def dD{α:Type}(p:α→Bool):List α→Nat→Int
 |[],_=> -1
 |x::r,i=>bif p x then Int.ofNat i else dD p r (i+1)
theorem lY{α:Type}(p:α→Bool):∀(l:List α)(i:Nat),aF (dD p l i) 0=aw (l.any p)
 |[],_=>rfl
 |x::r,i=>by
  unfold dD;rw[yi];cases h:p x with
  |true=>rfl
  |false=>simp_all[lY]
section
variable{α:Type}{p:α→Bool}{l x r:List α}{w:α}{j:Nat}
theorem oy(h1:l.drop j=x)(h2:x=w::r):l.length-(w::r).length=j∧l.length-r.length=j+1:=by grind
theorem mV(h1:l.drop j=x)(h2:x=w::r)(h3:dD p l 0=dD p (w::r) (l.length-(w::r).length))(h4:p w=true):dD p l 0=Int.ofNat j:=by rw[h3,(oy h1 h2).1,dD,h4];rfl
theorem kV(h1:l.drop j=x)(h2:x=w::r)(h3:dD p l 0=dD p (w::r) (l.length-(w::r).length))(h4:p w=false):dD p l 0=dD p r (l.length-r.length):=by rw[h3,(oy h1 h2).1,(oy h1 h2).2,dD,h4];rfl
end
def nQ(s:PStep):Bool:=al s.kind 0&&eZ s.label []
def tv(s:PStep):Bool:=aF 0 s.kind&&(aw (aF 7 s.kind)&&kJ s.label)
def N3:List PStep→Bool
 |[]=>true
 |s::r=>(nQ s||tv s)&&r.all tv
def km(p:List PStep):Bool:=N3 p&&aw (aF 9 (.ofNat p.length))
def HB(p r:List PStep):Bool:=bif Nat.beq r.length p.length then N3 r else r.all tv
theorem N2{p:List PStep}:N3 p=HB p p:=by simp_all[HB]
theorem U0{p:List PStep}:HB p []=true:=by unfold HB;cases Nat.beq ([]:List PStep).length p.length<;>rfl
theorem Er{p x r:List PStep}{w:PStep}{j:Nat}(h1:p.drop j=x)(h2:x=w::r)(h3:N3 p=HB p (w::r)):N3 p=((bif al (Int.ofNat j) 0 then(nQ w||tv w)else tv w)&&HB p r):=by
 obtain⟨e1,e2⟩:=oy h1 h2;have e3:=congrArg List.length (h1.trans h2);simp only[wY,cN]at e1 e2 e3;have f1:Nat.beq r.length p.length=false:=by cases h:Nat.beq r.length p.length with|false=>rfl|true=>grind[Nat.eq_of_beq_eq_true]
 rw[h3];unfold HB;rw[f1];cases j with
 |zero=>
  have f2:Nat.beq (w::r).length p.length=true:=by simp_all
  rw[f2];rfl
 |succ j=>
  have f2:Nat.beq (w::r).length p.length=false:=by cases h:Nat.beq (w::r).length p.length with|false=>rfl|true=>simp_all
  rw[f2];rfl
def dX:Int→aP
 |0=>[98,111,111,107]
 |1=>[112,97,114,116]
 |2=>[115,101,99,116,105,111,110]
 |3=>[112,97,114,97,103,114,97,112,104]
 |4=>[116,97,98,108,101]
 |5=>[114,111,119]
 |6=>[99,101,108,108]
 |7=>[110,111,116,101]
 |_=>[]
def H6:Int→List Int
 |0=>[1,2]
 |1=>[2]
 |2=>[3,4,7]
 |3=>[3,4,7]
 |4=>[5]
 |5=>[6]
 |_=>[]
def jK(p k:Int):Bool:=(H6 p).any (al k)
theorem IE{k:Int}(h:k<0∨7<k):dX k=[]:=by
 unfold dX;grind
theorem H5{k:Int}(h:k<0∨7<k):H6 k=[]:=by
 unfold H6;grind
end Go.Ev
namespace Go.Ev
open Go Go.RowKit Go.Proofs
structure ClassOf(p:UInt8→Bool)(q:Nat→Bool):Prop where
 low:∀c:UInt8,c.toNat<128→q c.toNat=aw (p c)
 high:∀n,128≤n→q n=true
 none:∀c:UInt8,128≤c.toNat→p c=false
theorem UZ{s:aP}{i:Nat}(h:i<s.length)(h2:i<ByteArray.size ⟨⟨s⟩⟩):(ByteArray.mk ⟨s⟩)[i]'h2=gD s i:=by
 simp[gD,List.getD,lu h];rfl
theorem uv{p:UInt8→Bool}{q:Nat→Bool}(hc:ClassOf p q)(s:aP):∀(f pos:Nat),pos≤ec p s→s.length≤pos+f→Lib.idxFuncFrom q true ⟨⟨s⟩⟩ f pos=(bif Nat.beq (ec p s) s.length then -1 else Int.ofNat (ec p s))
 | f,pos,h1,h2=>by
  have hl:=J7 (p:=p) (s:=s);have hsz:ByteArray.size ⟨⟨s⟩⟩=s.length:=rfl;by_cases he:pos<s.length
  ·cases f with
   |zero=>omega
   | succ f=>
    unfold Lib.idxFuncFrom;rw[hsz,if_pos he];have hb:=UZ he (by rw[hsz];exact he);by_cases hr:pos<ec p s
    ·have hp:=J8 hr;have ha:(gD s pos).toNat<128:=by
      rcases fF (gD s pos).toNat 128 with h|h
      ·exact h
      ·rw[hc.none _ h]at hp;cases hp
     rw[decode_ascii _ pos (by rw[hsz];exact he) (by rw[hb];exact ha),hb];rw[if_neg (by rw[hc.low _ ha,hp];decide)];exact uv hc s f (pos+1) hr (by omega)
    ·have e:ec p s=pos:=by omega
     have hp:=Fh (p:=p) (s:=s) (by omega);rw[e]at hp;have hq:q (Utf8.decode ⟨⟨s⟩⟩ pos).1=true:=by
      rcases fF (gD s pos).toNat 128 with h|h
      ·rw[decode_ascii _ pos (by rw[hsz];exact he) (by rw[hb];exact h),hb,hc.low _ h,hp];rfl
      ·exact hc.high _ (decode_high _ pos (by rw[hsz];exact he) (by rw[hb];exact h)).1
     rw[if_pos hq,e];have f1:Nat.beq pos s.length=false:=by cases h:Nat.beq pos s.length with|false=>rfl|true=>have:=pf h;omega
     rw[f1];rfl
  ·have e:ec p s=s.length:=by omega
   rw[Lib.idxFuncFrom_end _ _ _ _ _ (by rw[hsz];exact he),e,pO];rfl
theorem wR{p:UInt8→Bool}{q:Nat→Bool}(hc:ClassOf p q)(s:aP):Lib.idxFunc q true ⟨⟨s⟩⟩=(bif Nat.beq (ec p s) s.length then -1 else Int.ofNat (ec p s)):=uv hc s _ 0 (bM _) (by show s.length≤0+s.length;omega)
section
variable{P:Program}{G:eD}{f g:FuncId}
theorem Cj{pl:Pl}{M:du}{w:World}{h:AHeap}(hGT:iL G)(hg2:∀args w,(callFunc g args).run P w=.ok (.enter g args) w){q:Nat→Bool}{qI:Int→Bool}(hp:∀r:Int,ar P G g [.int .i32 r] (.bool (qI r)))(hq:∀n:Nat,qI (.ofNat n)=q n)
  (hG:pe G pl M)(hr:cM pl M h w):PredGrows P g #[] q w:=by
 intro W x _ hb;refine Calls.mono (ar.calls hGT hg2 (hp (.ofNat x)) hG (hr.below hb) (vs:=#[.int .i32 (.ofNat x)]) ⟨rfl,fun j y hj=>?_⟩) fun e w' ⟨⟨cv,pl',M',he,hv⟩,hb',_⟩=>?_
 ·cases j with
  |zero=>simp at hj;subst hj;exact .int _ _
  |succ j=>simp_all
 grind[cases VRel]
theorem AX(hGT:iL G)(hE:∀vs w,(callFunc f vs).run P w=.ok (.enter f vs) w)(hg2:∀args w,(callFunc g args).run P w=.ok (.enter g args) w){q:Nat→Bool}{qI:Int→Bool}
  (hC:∀(s:ByteArray)(w:World),PredGrows P g #[] q w→Calls P f #[.string s,.func (.func g) #[] #[]] w fun e w'=>e=.returned (.int .i64 (Lib.idxFunc q true s))∧Below w.heap.size w w')
  (hp:∀r:Int,ar P G g [.int .i32 r] (.bool (qI r)))(hq:∀n:Nat,qI (.ofNat n)=q n){p:UInt8→Bool}(hc:ClassOf p q)(s:aP):
  ar P G f [.str s,.func (.func g) [] []] (.int .i64 (bif Nat.beq (ec p s) s.length then -1 else Int.ofNat (ec p s))):=by
 refine ar.below hE fun pl M w vs h hG hr hv=>?_
 obtain⟨a,b,rfl,hv1,hv2⟩:=A8 hv;have e2:=zK hv2;subst e2;cases hv1
 rw[←wR hc s];exact⟨_,.int _ _,hC ⟨⟨s⟩⟩ w (Cj hGT hg2 hp hq hG hr)⟩
theorem uF(hGT:iL G)(hE:∀vs w,(callFunc f vs).run P w=.ok (.enter f vs) w)(hg2:∀args w,(callFunc g args).run P w=.ok (.enter g args) w){q:Nat→Bool}{qI:Int→Bool}
  (hC:∀(s:ByteArray)(w:World),PredGrows P g #[] q w→Calls P f #[.string s,.func (.func g) #[] #[]] w fun e w'=>e=.returned (.bool (decide (0≤Lib.idxFunc q true s)))∧Below w.heap.size w w')
  (hp:∀r:Int,ar P G g [.int .i32 r] (.bool (qI r)))(hq:∀n:Nat,qI (.ofNat n)=q n){p:UInt8→Bool}(hc:ClassOf p q)(s:aP):
  ar P G f [.str s,.func (.func g) [] []] (.bool (aw (s.all p))):=by
 refine ar.below hE fun pl M w vs h hG hr hv=>?_
 obtain⟨a,b,rfl,hv1,hv2⟩:=A8 hv;have e2:=zK hv2;subst e2;cases hv1
 have e:aw (s.all p)=decide (0≤Lib.idxFunc q true ⟨⟨s⟩⟩):=by
  rw[wR hc s];cases ha:s.all p with
  |true=>rw[(vc (p:=p)).2 ha,pO];rfl
  | false=>
   have:Nat.beq (ec p s) s.length=false:=by
    cases hb:Nat.beq (ec p s) s.length with
    |false=>rfl
    |true=>grind[vc,Nat.eq_of_beq_eq_true]
   simp_all
 rw[e];exact⟨_,.bool _,hC ⟨⟨s⟩⟩ w (Cj hGT hg2 hp hq hG hr)⟩
end
theorem Hy{lo hi:Nat}(h:hi<128):ClassOf (Qf (Int.ofNat lo) (Int.ofNat hi)) fun n=>aF (Int.ofNat n) (Int.ofNat lo)||aF (Int.ofNat hi) (Int.ofNat n) where
 low c _:=by unfold Qf;simp_all
 high n hn:=by rw[show aF (Int.ofNat hi) (Int.ofNat n)=true from nc (by grind)];simp_all
 none c hn:=Ws (nc (by grind))
end Go.Ev
namespace Go.Ev
open Go Go.RowKit
section
variable{P:Program}{G:eD}{f:FuncId}
theorem H8{pl:Pl}{M:du}{w:World}{h:AHeap}(hr:cM pl M h w){l:List aP}{a:Addr}{n cap:Nat}(hv:VRel pl M (.ps (l.map mT) false) (.slice (some a) n cap))(hne:l≠[]):
  n=l.length∧n≤cap∧a=⟨a.block,a.off,none⟩∧a.block<w.heap.size∧∀(j:Nat)(x:ByteArray),(l.map fun s=>(⟨⟨s⟩⟩:ByteArray))[j]?=some x→w.cell? ⟨a.block,a.off+j,none⟩=some (.string x):=by
 cases hv with
 | ps hl ht hm hs hc=>
  rename_i sz c;have hne':l.map mT≠[]:=by simp_all
  obtain⟨m1,m2,m3,m4⟩:=hm hne';obtain⟨t,fr,hb⟩:=hr.imm _ _ m2;have hsz:sz=1:=by
   cases l with
   |nil=>simp_all
   |cons s r=>exact((hs (mT s) (by simp)).1).symm
  subst hsz;refine⟨by simp,hl,by rw[←m1],hr.memLt m2,fun j x hj=>?_⟩;rw[pT]at hj;obtain⟨s,e1,rfl⟩:=EO.1 hj;have hlt:j<l.length:=(ge.1 e1).1;have q:=hc j (mT s) 0 (.str s) (by simp_all) rfl;rw[Nat.mul_one,pi]at q;have hin:a.off+j<c.size:=by grind
  have e2:c[a.off+j]?=some (c.getD (a.off+j) undef):=by simp_all
  simp only[World.cell?,hb];simp only[Option.isSome_none,gc,if_false];rw[e2];cases hq:c.getD (a.off+j) undef<;>rw[hq]at q<;>cases q
  rfl
theorem NK(hE:∀vs w,(callFunc f vs).run P w=.ok (.enter f vs) w)
  (hC:∀(bk o c:Nat)(xs:List ByteArray)(sep:ByteArray)(w:World),(∀(j:Nat) x,xs[j]?=some x→w.cell? ⟨bk,o+j,none⟩=some (.string x))→bk<w.heap.size→xs.length≤140737488355328→xs.length≤c→
   (Lib.join (xs.map (·.data.toList)) sep.data.toList).length≤140737488355328→
   Calls P f #[.slice (some ⟨bk,o,none⟩) xs.length c,.string sep] w fun e w'=>e=.returned (.string ⟨(Lib.join (xs.map (·.data.toList)) sep.data.toList).toArray⟩)∧Below w.heap.size w w')
  (hN:∀(a:Option Addr)(c:Nat)(sep:ByteArray)(w:World),Calls P f #[.slice a 0 c,.string sep] w fun e w'=>e=.returned (.string ⟨#[]⟩)∧w'=w)
  (l:List aP)(sep:aP)(h1:l.length≤140737488355328)(h2:(Lib.join l sep).length≤140737488355328):ar P G f [.ls (l.map mT),.str sep] (.str (Lib.join l sep)):=by
 refine ar.below hE fun pl M w vs h hG hr hv=>?_
 obtain⟨a,b,rfl,hv1,hv2⟩:=A8 hv;cases hv2
 have nil (p:Option Addr) (cap:Nat) (hl:l=[]):∃cv,VRel pl M (.str (Lib.join l sep)) cv∧Calls P f #[.slice p 0 cap,.string ⟨⟨sep⟩⟩] w fun e w'=>e=.returned cv∧Below w.heap.size w w':=by
  subst hl;exact⟨.string ⟨⟨[]⟩⟩,.str _,Calls.mono (hN p cap ⟨⟨sep⟩⟩ w) fun e w' ⟨he,hw⟩=>⟨he,hw▸Below.refl _ _⟩⟩
 generalize hx:l.map mT=xs at hv1;cases hv1 with
 |lsn=>simp_all
 | lsp hp ht=>
  subst hx;by_cases hl:l=[]
  ·subst hl;cases hp with
   |ps=>simp_all
  ·have hp':=hp;cases hp with
   |ps=>
    rename_i a cap sz c _ _ _ _ _;obtain⟨e1,e2,e3,e4,e5⟩:=H8 hr hp' hl;have e6:(l.map fun s=>(⟨⟨s⟩⟩:ByteArray)).map (·.data.toList)=l:=by rw[List.map_map];exact List.map_id l
    have:=hC a.block a.off cap (l.map fun s=>⟨⟨s⟩⟩) ⟨⟨sep⟩⟩ w e5 e4 (by grind) (by grind) (by grind);rw[e6,←e3,bG,←e1]at this;exact⟨.string ⟨⟨Lib.join l sep⟩⟩,.str _,this⟩
theorem Fl(hE:∀vs w,(callFunc f vs).run P w=.ok (.enter f vs) w)
  (hC:∀(s:ByteArray)(c:Nat)(w:World),c≤9223372036854775807→s.size*c≤140737488355328→Calls P f #[.string s,.int .i64 c] w fun e w'=>e=.returned (.string ⟨(Lib.repeatL s.data.toList c).toArray⟩)∧Below w.heap.size w w')
  (s:aP)(c:Nat)(h1:c≤9223372036854775807)(h2:s.length*c≤140737488355328):ar P G f [.str s,.int .i64 (.ofNat c)] (.str (Lib.repeatL s c)):=by
 refine ar.below hE fun pl M w vs h hG hr hv=>?_
 obtain⟨a,b,rfl,hv1,hv2⟩:=A8 hv;cases hv1;cases hv2
 exact⟨.string ⟨⟨Lib.repeatL s c⟩⟩,.str _,hC ⟨⟨s⟩⟩ c w h1 h2⟩
theorem LN(hE:∀vs w,(callFunc f vs).run P w=.ok (.enter f vs) w)
  (hC:∀(s cs:ByteArray)(w:World),s.size≤9223372036854775807→cs.size<4294967281→(∀(j:Nat) b,cs.data.toList[j]?=some b→b.toNat<128)→
   Calls P f #[.string s,.string cs] w fun e w'=>e=.returned (.string ⟨(Lib.trimS s.data.toList cs.data.toList).toArray⟩)∧Below w.heap.size w w')
  (s cs:aP)(h1:s.length≤9223372036854775807)(h2:cs.length<4294967281)(h3:∀b,b∈cs→b.toNat<128):ar P G f [.str s,.str cs] (.str (Lib.trimS s cs)):=by
 refine ar.below hE fun pl M w vs h hG hr hv=>?_
 obtain⟨a,b,rfl,hv1,hv2⟩:=A8 hv;cases hv1;cases hv2
 exact⟨.string ⟨⟨Lib.trimS s cs⟩⟩,.str _,hC ⟨⟨s⟩⟩ ⟨⟨cs⟩⟩ w h1 h2 fun j b hj=>h3 b (bi hj)⟩
end
end Go.Ev
namespace Go.Ev
open Go
structure PId where
 a:Int
 i:Int
 n:Int
 deriving Inhabited,DecidableEq
noncomputable def aU(p:PId):AV:=.agg [.int .i64 p.a,.int .i64 p.i,.int .i64 p.n]
theorem Jq(p:PId):(aU p).top=0:=rfl
def bq(u:TUnit):PId:=⟨u.act,u.item,u.n⟩
def bg(p q:PId):Bool:=al p.a q.a&&(al p.i q.i&&al p.n q.n)
theorem uf{p q:PId}(h:bg p q=true):p=q:=by
 unfold bg at h;rw[bx,bx]at h;obtain⟨a,b,c⟩:=p;obtain⟨d,e,g⟩:=q;grind[jy]
theorem kH(p:PId):bg p p=true:=by simp[bg,bV]
abbrev fL(p:PId)(u:TUnit):Bool:=bg (bq u) p
theorem II:KeyOf PId true 3 [(0,1),(1,1),(2,1)] aU bg where
 eq a b:=by
  show vW [.int .i64 a.a,.int .i64 a.i,.int .i64 a.n] [.int .i64 b.a,.int .i64 b.i,.int .i64 b.n] [(0,1),(1,1),(2,1)]=_
  simp only[vW,jz,RZ,GR,kg,bg];cases h1:al a.a b.a<;>cases h2:al a.i b.i<;>cases h3:al a.n b.n<;>rfl
 t a b h:=uf h
 refl a:=kH a
 same a:=by simp[aU,mK,jo,jG,kg,bV]
 top a:=rfl
mutual
def nU:TUnit→Nat
 |⟨_,_,_,_,_,_,_,ks⟩=>1+eJ ks
def eJ:List TUnit→Nat
 |[]=>0
 |k::r=>nU k+eJ r
end
mutual
def m0:TUnit→Nat
 |⟨_,_,_,_,_,_,_,ks⟩=>kh ks
def kh:List TUnit→Nat
 |[]=>0
 |k::r=>Nat.max (1+m0 k) (kh r)
end
mutual
def bp:TUnit→List TUnit
 |⟨x1,x2,x3,x4,x5,x6,x7,ks⟩=>⟨x1,x2,x3,x4,x5,x6,x7,ks⟩::dt ks
def dt:List TUnit→List TUnit
 |[]=>[]
 |k::r=>bp k++dt r
end
mutual
def aI(p:PId):TUnit→List TUnit
 |⟨x1,x2,x3,x4,x5,x6,x7,ks⟩=>bif fL p ⟨x1,x2,x3,x4,x5,x6,x7,ks⟩then[⟨x1,x2,x3,x4,x5,x6,x7,ks⟩]else match co p ks with
  |[]=>[]
  |y::t=>⟨x1,x2,x3,x4,x5,x6,x7,ks⟩::y::t
def co(p:PId):List TUnit→List TUnit
 |[]=>[]
 |k::r=>match aI p k with
  |[]=>co p r
  |y::t=>y::t
end
theorem jQ(u:TUnit):nU u=1+eJ u.kids:=by cases u;rw[nU];rfl
theorem mX:eJ []=0:=by rw[eJ]
theorem bh(k:TUnit)(r:List TUnit):eJ (k::r)=nU k+eJ r:=by rw[eJ]
theorem Lw(u:TUnit):m0 u=kh u.kids:=by cases u;rw[m0];rfl
theorem C1:kh []=0:=by rw[kh]
theorem Jj(k:TUnit)(r:List TUnit):kh (k::r)=Nat.max (1+m0 k) (kh r):=by rw[kh]
theorem da(u:TUnit):bp u=u::dt u.kids:=by cases u;rw[bp];rfl
theorem fT:dt []=[]:=by rw[dt]
theorem bO(k:TUnit)(r:List TUnit):dt (k::r)=bp k++dt r:=by rw[dt]
def dj(u:TUnit):List PId:=(bp u).map bq
def ia(l:List TUnit):List PId:=(dt l).map bq
theorem nh(u:TUnit):dj u=bq u::ia u.kids:=by unfold dj ia;rw[da];rfl
theorem rj:ia []=[]:=by unfold ia;rw[fT];rfl
theorem gk(k:TUnit)(r:List TUnit):ia (k::r)=dj k++ia r:=by grind[dj,ia,bO]
theorem DF:∀{l:List TUnit}{k:TUnit},k∈l→nU k≤eJ l
 |x::r,k,h=>by
  rw[bh];rcases fD.1 h with rfl|h
  ·omega
  ·have:=DF h;omega
theorem iz{u k:TUnit}(h:k∈u.kids):nU k<nU u:=by rw[jQ u];have:=DF h;omega
theorem It(u:TUnit):0<nU u:=by grind[jQ]
theorem yJ:∀(l:List TUnit),l.length≤eJ l
 |[]=>by simp_all
 |k::r=>by
  rw[bh,cN];have:=yJ r;grind[It]
theorem bf(u:TUnit):u.kids.length<nU u:=by grind[jQ,yJ]
theorem Mm{l:List TUnit}(h:∀k,k∈l→(bp k).length=nU k):(dt l).length=eJ l:=by
 induction l with
 |nil=>rw[fT,mX];rfl
 |cons k r ih=>grind[bO,bh]
theorem FA:∀(u:TUnit),(bp u).length=nU u:=TUnit.ind fun u ih=>by grind[da,jQ,Mm]
theorem uy(u:TUnit):(dj u).length=nU u:=by grind[dj,FA]
theorem Rw{l:List TUnit}{n:Nat}(h:∀k,k∈l→1+m0 k≤n):kh l≤n:=by
 induction l with
 |nil=>grind[C1]
 |cons k r ih=>grind[Jj]
theorem Ex:∀(u:TUnit),m0 u<nU u:=TUnit.ind fun u ih=>by
 have:kh u.kids≤eJ u.kids:=Rw fun k hk=>by have:=ih k hk;have:=DF hk;omega
 grind[Lw,jQ]
section
variable{p:PId}{u w:TUnit}{r:List TUnit}
theorem gd(u:TUnit):aI p u=bif fL p u then[u]else match co p u.kids with|[]=>[]|y::t=>u::y::t:=by cases u;rw[aI];rfl
theorem kr:co p []=[]:=by rw[co]
theorem oD(k:TUnit)(r:List TUnit):co p (k::r)=match aI p k with|[]=>co p r|y::t=>y::t:=by rw[co]
def cj(p:PId)(u:TUnit):Bool:=aw (aI p u).isEmpty
theorem AY(h:cj p u=false):aI p u=[]:=by grind[cj]
theorem vL(h:cj p u=true):∃y t,aI p u=y::t:=by
 unfold cj at h;cases e:aI p u with
 |nil=>grind
 |cons x r=>simp_all
theorem lQ(h:cj p u=true):aI p u≠[]:=by grind[vL]
theorem qP(h:fL p u=true):aI p u=[u]:=by rw[gd,h];rfl
theorem D9(h:fL p u=true):cj p u=true:=by unfold cj;rw[qP h];rfl
theorem iM(h:cj p w=false):co p (w::r)=co p r:=by rw[oD,AY h]
theorem n6(h:cj p w=true):co p (w::r)=aI p w:=by grind[vL,oD]
theorem Ol(h:fL p u=false)(h2:co p u.kids=co p []):aI p u=[]:=by rw[gd,h,h2,kr];rfl
theorem Ge(h:fL p u=false)(h2:co p u.kids=co p []):cj p u=false:=by unfold cj;rw[Ol h h2];rfl
theorem JB(h:fL p u=false)(h2:co p u.kids=co p (w::r))(h3:cj p w=true):aI p u=u::aI p w:=by grind[gd,n6,vL]
theorem T5(h:fL p u=false)(h2:co p u.kids=co p (w::r))(h3:cj p w=true):cj p u=true:=by unfold cj;rw[JB h h2 h3];rfl
end
theorem l9{p:PId}:∀(u:TUnit),(aI p u).length≤nU u:=TUnit.ind fun u ih=>by
 rw[gd];cases fL p u with
 |true=>exact It u
 | false=>
  have key:∀(r:List TUnit),(∀k,k∈r→k∈u.kids)→(co p r).length≤eJ r:=by
   intro r;induction r with
   |nil=>grind[kr]
   |cons k r ihr=>grind[oD,bh]
  grind[jQ]
def be:TUnit:=⟨0,0,0,0,[],[],[],[]⟩
noncomputable def ee(p:PId)(u:TUnit):TUnit:=bif cj p u then gD (aI p u) ((aI p u).length -1)else be
theorem JD{p:PId}:∀(u:TUnit)(x:TUnit),x∈aI p u→x∈bp u:=TUnit.ind fun u ih=>by
 intro x hx;rw[gd]at hx;rw[da];cases h:fL p u with
 |true=>simp_all
 | false=>
  rw[h]at hx;simp only[cond_false]at hx;have key:∀(r:List TUnit),(∀k,k∈r→k∈u.kids)→∀x,x∈co p r→x∈dt r:=by
   intro r;induction r with
   |nil=>grind[kr]
   |cons k r ihr=>grind[oD,bO]
  grind
noncomputable def po(p:Int×aP):AV:=.agg [.int .i64 p.1,.str p.2]
def mP(a b:Int×aP):Bool:=al a.1 b.1&&eZ a.2 b.2
theorem qu:∀(s:aP),eZ s s=true
 |[]=>rfl
 |c::r=>by simp only[eZ,qu r,Bool.and_true];simp_all
theorem G1:∀{a b:aP},eZ a b=true→a=b
 |[],[],_=>rfl
 |c::r,d::q,h=>by
  simp only[eZ,bx]at h;rw[G1 h.2,UInt8.toNat_inj.1 (pf h.1)]
theorem K5:KeyOf (Int×aP) true 2 [(0,1),(1,2)] po mP where
 eq a b:=by
  show vW [.int .i64 a.1,.str a.2] [.int .i64 b.1,.str b.2] [(0,1),(1,2)]=_
  simp only[vW,jz,RZ,GR,kg,mP];cases h1:al a.1 b.1<;>cases h2:eZ a.2 b.2<;>rfl
 t a b h:=by
  simp only[mP,bx]at h;grind[jy,G1]
 refl a:=by simp[mP,bV,qu]
 same a:=by simp[po,mK,jo,jG,kg,bV,qu]
 top a:=rfl
noncomputable def dw(b:Bool):AV:=.bool b
theorem Am(b:Bool):(dw b).top=0:=rfl
def OV{K:Type}(keq:K→K→Bool)(k:K)(l:List (K×Bool)):Bool:=(nP keq k l).getD false
section
variable{K:Type}{ag:Bool}{sz:Nat}{lv:List (Nat×Nat)}{kenc:K→AV}{keq:K→K→Bool}
theorem F4(hk:KeyOf K ag sz lv kenc keq)(m:List (K×Bool))(k:K):eP (some (.bool false)) false (bd ag sz lv (kenc k) (cX kenc dw m 0) 0)=some (.bool (OV keq k m)):=by
 rw[zF hk];unfold OV;cases nP keq k m with
 |none=>rfl
 |some v=>rfl
theorem JE(hk:KeyOf K ag sz lv kenc keq)(m:List (K×Bool))(k:K):rD (cX kenc dw m 0) m.length (kenc k) (.bool true) (bd ag sz lv (kenc k) (cX kenc dw m 0) 0)=some (cX kenc dw (fE keq k true m) 0,(fE keq k true m).length):=B8 (f:=dw) hk k true m
end
def oB(l:List PWord):Bool:=aw (aF 256 (.ofNat l.length))&&qj (l.map fun w=>w.text)
def mH(pk:Int):List TUnit→List ((Int×aP)×Bool)→Bool
 |[],_=>true
 |k::r,m=>jK pk k.kind&&(aw (OV mP (k.kind,k.label) m)&&mH pk r (fE mP (k.kind,k.label) true m))
def lI(u:TUnit):Bool:=(bif al u.kind 0 then eZ u.label []&&aw (aF 0 (.ofNat (u.head.length+u.words.length)))else aw (eZ (dX u.kind) [])&&(kJ u.label&&(oB u.head&&oB u.words)))&&(mH u.kind u.kids []&&aw (aF 64 (.ofNat u.kids.length)))
def wJ(q:TUnit→Bool)(u:TUnit):Bool:=(bp u).all q
theorem yc(q:TUnit→Bool)(u:TUnit):wJ q u=(q u&&(dt u.kids).all q):=by grind[wJ,da]
theorem N1(q:TUnit→Bool):(dt []).all q=true:=by rw[fT];rfl
theorem BX(q:TUnit→Bool)(k:TUnit)(r:List TUnit):(dt (k::r)).all q=(wJ q k&&(dt r).all q):=by rw[bO,List.all_append];rfl
def CV(l:List PId)(m:List (PId×Bool)):List (PId×Bool):=l.foldl (fun m p=>fE bg p true m) m
def b6:PId:=⟨0,0,0⟩
def Qo(u:TUnit):Bool:=(OV bg b6 (CV (dj u) [])&&al (.ofNat (CV (dj u) []).length) 1)||(al (.ofNat (CV (dj u) []).length) (.ofNat (dj u).length)&&(al u.kind 0==fL b6 u))
def ku(u:TUnit):Bool:=wJ lI u&&(aw (aF 8 (.ofNat (m0 u)))&&(aw (aF 1024 (.ofNat (nU u)))&&Qo u))
theorem bA{u k:TUnit}(h:k∈u.kids){x:TUnit}(hx:x∈bp k):x∈bp u:=by
 rw[da];refine fJ _ ?_;generalize u.kids=l at h;induction l with
 |nil=>grind
 |cons y r ih=>grind[bO]
theorem dz(u:TUnit):u∈bp u:=by grind[da]
theorem K4{u k:TUnit}(h:k∈u.kids):k∈bp u:=bA h (dz k)
end Go.Ev
namespace Go.Ev
open Go
def cJ{α:Type}(q:α→α→Bool):List α→List α→Bool
 |[],[]=>true
 |x::l,y::m=>q x y&&cJ q l m
 |_,_=>false
theorem lx{α:Type}{q:α→α→Bool}:∀{l m:List α},l.length≠m.length→cJ q l m=false
 |[],[],h=>absurd rfl h
 |[],y::m,_=>rfl
 |x::l,[],_=>rfl
 |x::l,y::m,h=>by
  unfold cJ;rw[lx (l:=l) (m:=m) (fun e=>h (by simp[e]))];exact yh _
theorem G0{α:Type}{q:α→α→Bool}(hq:∀a b,q a b=true↔a=b):∀{l m:List α},cJ q l m=true↔l=m
 |[],[]=>by simp[cJ]
 |[],y::m=>by simp[cJ]
 |x::l,[]=>by simp[cJ]
 |x::l,y::m=>by simp[cJ,hq,G0 hq (l:=l) (m:=m)]
section
variable{α:Type}[Inhabited α]{q:α→α→Bool}{l m x r:List α}{w:α}{j:Nat}
omit [Inhabited α]in
theorem Af:cJ q l m=cJ q l (m.drop (l.length-l.length)):=by simp_all
theorem yw{m:List α}{j:Nat}(h:j<m.length):m.drop j=gD m j::m.drop (j+1):=by grind[List.drop_eq_getElem_cons,gD]
theorem ib(h1:l.drop j=x)(h2:x=w::r)(hl:l.length=m.length)(h3:cJ q l m=cJ q (w::r) (m.drop (l.length-(w::r).length))):cJ q l m=(q w (gD m j)&&cJ q r (m.drop (l.length-r.length))):=by
 have e:=congrArg List.length (h1.trans h2);simp only[wY,cN]at e;rw[h3,(oy h1 h2).1,(oy h1 h2).2,yw (by omega),cJ]
omit [Inhabited α]in
theorem mS(hl:l.length=m.length)(h3:cJ q l m=cJ q [] (m.drop (l.length-([]:List α).length))):cJ q l m=true:=by rw[h3,gu,Nat.sub_zero,hl,List.drop_length];rfl
end
def Bz(a b:PWord):Bool:=eZ a.text b.text&&(al a.act b.act&&(al a.item b.item&&al a.at_ b.at_))
theorem Uk(a b:PWord):Bz a b=true↔a=b:=by
 obtain⟨t,x,y,z⟩:=a;obtain⟨t',x',y',z'⟩:=b;simp only[Bz,bx,PWord.mk.injEq];constructor
 ·grind[G1,jy]
 ·grind[qu,bV]
mutual
def yx:TUnit→TUnit→Bool
 |⟨a,i,n,k,l,h,w,ks⟩,v=>bg ⟨a,i,n⟩ (bq v)&&(al k v.kind&&(eZ l v.label&&(cJ Bz h v.head&&(cJ Bz w v.words&&Nm ks v.kids))))
def Nm:List TUnit→List TUnit→Bool
 |[],[]=>true
 |k::r,[]=>false
 |k::r,x::s=>yx k x&&Nm r s
 |[],x::s=>false
end
theorem JJ(u v:TUnit):yx u v=(bg (bq u) (bq v)&&(al u.kind v.kind&&(eZ u.label v.label&&(cJ Bz u.head v.head&&(cJ Bz u.words v.words&&cJ yx u.kids v.kids))))):=by
 have key:∀(l m:List TUnit),Nm l m=cJ yx l m:=by
  intro l;induction l with
  |nil=>intro m;cases m<;>(rw[Nm];rfl)
  |cons x l ih=>intro m;cases m with|nil=>rw[Nm];rfl|cons y m=>rw[Nm,ih];rfl
 cases u
 rw[yx,key];rfl
theorem Uw:∀(u v:TUnit),yx u v=true↔u=v:=TUnit.ind fun u ih=>by
 have key:∀(l:List TUnit),(∀k,k∈l→k∈u.kids)→∀m,cJ yx l m=true↔l=m:=by
  intro l;induction l with
  |nil=>grind[cJ]
  |cons x l ihl=>
   intro hm m;cases m with
   |nil=>simp[cJ]
   |cons y m=>grind[cJ]
 intro v;rw[JJ];simp only[bx,key u.kids (fun _ h=>h),G0 Uk];obtain⟨a,i,n,k,l,h,w,ks⟩:=u;obtain⟨a',i',n',k',l',h',w',ks'⟩:=v;simp only[TUnit.mk.injEq,bq,TUnit.act,TUnit.item,TUnit.n,TUnit.kind,TUnit.label,TUnit.head,TUnit.words,TUnit.kids];constructor
 ·grind[uf,jy,G1]
 ·rintro⟨rfl,rfl,rfl,rfl,rfl,rfl,rfl,rfl⟩
  exact⟨kH _,bV _,qu _,rfl,rfl,rfl⟩
end Go.Ev
namespace Go.Ev
open Go
def HM(u v:AV):Prop:=(Sc v→Sc u)∧Les u.cells v.cells
theorem HM.refl(v:AV):HM v v:=⟨id,Les.refl _⟩
theorem HM.one{u v:AV}(hu:u.cells=[u])(hv:v.cells=[v])(hs:cP u=true)(h:Le u v):HM u v:=⟨fun _ y hy=>by simp_all,by rw[hu,hv];exact .cons h .nil⟩
inductive LesC:List AV→List AV→Prop
 |nil:LesC [] []
 |cons {u v:AV} {us vs:List AV} (h:HM u v) (k:LesC us vs):LesC (u::us) (v::vs)
theorem LesC.len{us vs:List AV}(h:LesC us vs):us.length=vs.length:=by
 induction h with
 |nil=>rfl
 |cons _ _ ih=>simp_all
theorem LesC.at_{us vs:List AV}(h:LesC us vs):∀(j:Nat)(u:AV),us[j]?=some u→∃v,vs[j]?=some v∧HM u v:=by
 induction h with
 |nil=>simp_all
 |cons h k ih=>grind
theorem ED{xs ys:List AV}{t:Bool}(h:LesC xs ys):Le (.ps xs false) (.ps ys t):=fun pl M v hv=>by
 cases hv with
 | @ps _ _ a cap sz c hl ht hm hs hc=>
  rw[←h.len];refine .ps (sz:=sz) (c:=c) (by rw[h.len];omega) (fun h=>by grind) (fun hx=>?_) (fun x hx=>?_) fun i x j y hx hy=>?_
  ·have:ys≠[]:=fun e=>hx (rO (by rw[h.len,e];rfl))
   rw[h.len];simp_all
  ·obtain⟨i,hi⟩:=BO hx;obtain⟨y,h1,h2,h3⟩:=h.at_ i x hi;have:=hs y (bi h1);exact⟨h3.len.trans this.1,h2 this.2⟩
  ·obtain⟨z,h1,_,h3⟩:=h.at_ i x hx;obtain⟨d,h4,h5⟩:=h3.at_ j y hy;exact h5 _ _ _ (hc i z j d h1 h4)
theorem Xr{xs ys:List AV}{t:Bool}(h:LesC xs ys)(h0:ax xs=0):Le (.ls xs) (.ps ys t):=fun pl M v hv=>.lsp (ED h pl M v hv) h0
theorem Xs{xs ys:List AV}(h:LesC xs ys)(h0:ax xs=0):Le (.ls xs) (.ls ys):=fun pl M v hv=>by
 cases hv with
 |lsn=>cases h;exact .lsn
 |lsp hv _=>exact .lsp (ED h pl M v hv) h0
theorem Le.pls{x:AV}{xs ys:List AV}(h:LesC (x::xs) ys):Le (.ps (x::xs) false) (.ls ys):=fun pl M v hv=>by
 cases hv with
 |lsn=>cases h
 |lsp hv _=>exact ED h pl M v hv
mutual
def Bq:AV→AV→Bool
 | .ls xs,.nils=>xs.isEmpty
 | .ls xs,.ps ys _=>ky xs ys&&Nat.beq (ax xs) 0
 | .ls xs,.ls ys=>ky xs ys&&Nat.beq (ax xs) 0
 | .ps (x::xs) false,.ls ys=>ky (x::xs) ys
 | .ps xs false,.ps ys _=>ky xs ys
 | .agg us,.agg vs=>ky us vs&&us.all cP
 |u,v=>AV.same u v
def ky:List AV→List AV→Bool
 |[],[]=>true
 |a::us,b::vs=>Bq a b&&ky us vs
 |_,_=>false
end
theorem HM.same{u v:AV}(h:AV.same u v=true):Le u v∧HM u v:=by grind[AV.same_eq,Le.refl,HM.refl]
mutual
theorem wV:∀(u v:AV),Bq u v=true→Le u v∧HM u v:=fun u v h=>by
 unfold Bq at h;split at h
 ·rename_i xs;have e:xs=[]:=by simp_all
  subst e;exact⟨Le.nils,HM.one rfl rfl rfl Le.nils⟩
 ·rename_i xs ys t;have h:=pN.1 h;have k:=Xr (t:=t) (ju xs ys h.1).2 (pf h.2);exact⟨k,HM.one rfl rfl rfl k⟩
 ·rename_i xs ys;have h:=pN.1 h;have k:=Xs (ju xs ys h.1).2 (pf h.2);exact⟨k,HM.one rfl rfl rfl k⟩
 ·rename_i x xs ys;have k:=Le.pls (ju (x::xs) ys h).2;exact⟨k,HM.one rfl rfl rfl k⟩
 ·rename_i xs ys t;have k:=ED (t:=t) (ju xs ys h).2;exact⟨k,HM.one rfl rfl rfl k⟩
 ·rename_i us vs;have h:=pN.1 h;have k:=ju us vs h.1;exact⟨aT k.1 h.2,fun _ y hy=>md.1 h.2 y hy,k.1⟩
 ·exact HM.same h
theorem ju:∀(us vs:List AV),ky us vs=true→Les us vs∧LesC us vs:=fun us vs h=>by
 unfold ky at h;split at h
 ·exact⟨.nil,.nil⟩
 ·rename_i a us b vs;have h:=pN.1 h;have h1:=wV a b h.1;have h2:=ju us vs h.2;exact⟨.cons h1.1 h2.1,.cons h1.2 h2.2⟩
 ·grind
end
section
variable{P:Program}{G:eD}{f:FuncId}{a b:List AV}{u v:AV}
theorem ar.args(h:ar P G f a v)(hl:Les a b):ar P G f b v:=fun hp pl M w vs hg hr hv=>h hp pl M w vs hg hr (hv.le hl)
theorem ar.lessB(h:ar P G f a v)(hl:Bq u v=true):ar P G f a u:=h.less (wV _ _ hl).1
theorem P3(a b:Nat):Cm (.ofNat a) (.ofNat b)=.ofNat (Nat.max a b):=by
 unfold Cm;cases h:aF (.ofNat a) (.ofNat b)with
 |true=>
  have h:=aA h;grind
 |false=>
  have h:=aG h;simp_all
theorem Vd{xs ys:List AV}{i t:Nat}{r:List (Nat×Nat)}{x y:AV}{c:Bool}(hx:jz xs i=some x)(hy:jz ys i=some y)(h:GR t x y=some true)(k:vW xs ys r=some c):vW xs ys ((i,t)::r)=some c:=by grind[vW,RZ,vP]
theorem mO{xs ys:List AV}{i t:Nat}{r:List (Nat×Nat)}{x y:AV}{e c:Bool}(hx:jz xs i=some x)(hy:jz ys i=some y)(h:GR t x y=some e)(k:vW xs ys r=some c):vW xs ys ((i,t)::r)=some (e&&c):=by
 simp only[vW,hx,hy,RZ,h];cases e with
 |true=>exact k
 |false=>rfl
theorem Ae{xs ys:List AV}{i t:Nat}{r:List (Nat×Nat)}{x y:AV}{e:Bool}(hx:jz xs i=some x)(hy:jz ys i=some y)(h:GR t x y=some e)(k:vW xs ys r=some true):vW xs ys ((i,t)::r)=some e:=by
 simp only[vW,hx,hy,RZ,h];cases e with
 |true=>exact k
 |false=>rfl
theorem Vc(a:Int):GR 1 (.int .i64 a) (.int .i64 a)=some true:=congrArg some (bV a)
theorem Ep{d:Option TypeDesc}{n:Nat}{l:List (Nat×Nat)}{xs ys:List AV}{c:Bool}{H:AHeap}(hn:(Nat.beq xs.length n&&Nat.beq ys.length n)=true)(hl:vW xs ys l=some c):
  bb H (Sh (pF .eql d (some true) (some n) (some l)) (some (.agg xs)) (some (.agg ys)))=some (.val (.bool c) H):=by
 grind[Sh,pF,W7,oT,bb]
theorem u9{d:Option TypeDesc}{n:Nat}{l:List (Nat×Nat)}{xs ys:List AV}{c:Bool}{H:AHeap}(hn:(Nat.beq xs.length n&&Nat.beq ys.length n)=true)(hl:vW xs ys l=some c):
  bb H (Sh (pF .neq d (some true) (some n) (some l)) (some (.agg xs)) (some (.agg ys)))=some (.val (.bool (!c)) H):=by
 grind[Sh,pF,W7,oT,bb]
def ub:List (FuncId×List AV×AV)→Zw
 |[],_,_,_=>none
 |x::r,g,b,h=>match Nat.beq g x.1 with
  |true=>(match ky x.2.1 b with|true=>some (x.2.2,h)|false=>ub r g b h)
  |false=>ub r g b h
theorem AW:∀{L:List (FuncId×List AV×AV)}{g:FuncId}{h h1:AHeap}{v1:AV},ub L g b h=some (v1,h1)→∃x,x∈L∧g=x.1∧ky x.2.1 b=true∧v1=x.2.2∧h1=h
 |[],_,_,_,_,e=>by grind[ub]
 | x::r,g,h,h1,v1,e=>by
  unfold ub at e;have next:ub r g b h=some (v1,h1)→∃y,y∈x::r∧g=y.1∧ky y.2.1 b=true∧v1=y.2.2∧h1=h:=fun e=>
   let⟨y,k,q⟩:=AW e
   ⟨y,fJ _ k,q⟩
  grind[Nat.eq_of_beq_eq_true]
theorem Gb{C:Cfg}{L:List (FuncId×List AV×AV)}(hC:C.hook=ub L)(hL:∀x,x∈L→ar C.P C.G x.1 x.2.1 x.2.2):Ji C:=fun g b hp v1 h1 e pl M w vs hg hr hv=>by
 rw[hC]at e;obtain⟨x,hx,rfl,hl,rfl,rfl⟩:=AW e;rcases hL x hx h1 pl M w vs hg hr (hv.le (ju _ _ hl).1)with⟨k1,k2⟩|⟨cv,w',v2,h2,k1,⟨rfl,rfl⟩,k3⟩
 ·refine .inl ⟨k1,fun cs=>?_⟩;obtain⟨en,w',fr,⟨cv,v2,h2,e1,⟨rfl,rfl⟩,k3⟩,r⟩:=k2 cs;grind
 ·exact .inr ⟨cv,w',k1,k3⟩
def YJ(v:AV):Option (AV×AHeap)→Bool
 |some (u,_)=>Bq v u&&Nat.beq u.top 0
 |none=>false
theorem ar.closed{C:Cfg}{k:Nat}(hG:iL C.G)(ev:cw C.P C.G (fO C k))(ht:ax a=0)(h:YJ v (fO C k f a AHeap.none)=true):ar C.P C.G f a v:=by
 cases hx:fO C k f a AHeap.none with
 |none=>rw[hx]at h;cases h
 |some r=>
  obtain⟨u,h1⟩:=r;rw[hx]at h;have h:=pN.1 h;exact(kN hG ht (pf h.2) ((aL.of ev hx).mono fun v1 _ e=>e.1)).lessB h.1
end
end Go.Ev
namespace Go.Ev
open Go
theorem ar.ls0{P:Program}{G:eD}{f:FuncId}{r:List AV}{v:AV}(h1:ar P G f (.nils::r) v)(h2:ar P G f (.ps [] false::r) v):ar P G f (.ls []::r) v:=fun h=>EG (fun _ _ _ hv=>VRels.first hv fun _ hv=>hv.ls0) (h1 h) (h2 h)
theorem Q0{p:PId}{u:TUnit}(h:cj p u=true):ee p u∈aI p u:=by
 unfold ee;rw[h];have:=pS.2 (lQ h);grind[iC]
theorem SZ:∀(u:TUnit),m8 u=(bp u).flatMap nq:=by
 refine TUnit.ind fun u ih=>?_
 rw[LA,da,List.flatMap_cons];congr 1;have key:∀(l:List TUnit),(∀k,k∈l→k∈u.kids)→ki l=(dt l).flatMap nq:=by
  intro l;induction l with
  |nil=>intro _;rw[Dq,fT];rfl
  |cons k r ihr=>grind[tZ,bO]
 simp_all
theorem Om{p:PId}:∀(u:TUnit),cj p u=true→bq (ee p u)=p:=by
 refine TUnit.ind fun u ih h=>?_
 unfold ee;rw[h];simp only[cond_true];cases hh:fL p u with
 |true=>rw[qP hh];exact uf hh
 | false=>
  have key:∀(r:List TUnit),(∀k,k∈r→k∈u.kids)→co p r≠[]→bq (gD (co p r) ((co p r).length -1))=p:=by
   intro r;induction r with
   |nil=>grind[kr]
   |cons k r ihr=>grind[n6,ee,iM]
  have k2:=key u.kids fun _ h=>h
  obtain⟨y,t,e⟩:=vL h;rw[gd,hh]at e ⊢;grind[gD]
theorem LW{p:PId}:∀(u:TUnit),(∃x,x∈bp u∧bq x=p)→cj p u=true:=by
 refine TUnit.ind fun u ih ⟨x,hx,hp⟩=>?_
 cases hh:fL p u with
 |true=>grind[D9]
 | false=>
  rw[da]at hx;rcases fD.1 hx with rfl|hx
  ·simp_all[fL,kH]
  ·have key:∀(l:List TUnit),(∀k,k∈l→k∈u.kids)→x∈dt l→co p l≠[]:=by
    intro l;induction l with
    |nil=>grind[fT]
    |cons k r ihr=>grind[bO,cj,n6,iM]
   grind[cj,gd]
theorem Ci{α β:Type}{f:α→β}:∀{l:List α},(l.map f).Nodup→∀{x y:α},x∈l→y∈l→f x=f y→x=y
 | a::l,h,x,y,hx,hy,e=>by
  rw[eE,List.nodup_cons]at h;rcases fD.1 hx with h1|h1
  ·grind
  ·rcases fD.1 hy with h2|h2
   ·simp_all
   ·exact Ci h.2 h1 h2 e
theorem CS{K V:Type}{kenc:K→AV}{f:V→AV}:∀(l:List (K×V))(i:Nat),(cX kenc f l i).length=l.length
 |[],_=>rfl
 |(k,v)::r,i=>by rw[cX,cN,CS r,cN]
theorem L7(m:List (PId×Bool)):CV [] m=m:=rfl
theorem RJ{n:Nat}(h:0<n):al (Int.ofNat n) 0=false:=by grind[re]
def CL(p:PId):TUnit→Option TUnit:=fun u=>(bp u).find? (fL p)
theorem Se{p:PId}:∀(u:TUnit),(cj p u=true→CL p u=some (ee p u))∧(cj p u=false→CL p u=none):=by
 refine TUnit.ind fun u ih=>?_
 unfold CL;rw[da];cases hh:fL p u with
 |true=>
  rw[List.find?_cons_of_pos (by omega)];refine⟨fun h=>?_,fun h=>by grind[D9]⟩;unfold ee;rw[h,qP hh];rfl
 | false=>
  rw[List.find?_cons_of_neg (by simp_all)];have key:∀(r:List TUnit),(∀k,k∈r→k∈u.kids)→(co p r≠[]→(dt r).find? (fL p)=some (gD (co p r) ((co p r).length -1)))∧(co p r=[]→(dt r).find? (fL p)=none):=by
   intro r;induction r with
   |nil=>grind[kr,fT]
   |cons k r ihr=>
    intro hm;have ik:=ih k (hm k (fW ..));have ir:=ihr fun z hz=>hm z (fJ _ hz)
    rw[bO,List.find?_append];cases hk:cj p k with
    |true=>grind[CL,n6,lQ,ee]
    |false=>grind[CL,iM]
  have k2:=key u.kids fun _ h=>h
  refine⟨fun h=>?_,fun h=>?_⟩
  ·obtain⟨y,t,e⟩:=vL h;unfold ee;rw[h,gd,hh];rw[gd,hh]at e;grind[gD]
  ·have e:=AY h;grind[gd]
theorem gi(p:PId)(u:TUnit):fL p u=true↔bq u=p:=⟨uf,fun h=>by simp_all[fL,kH]⟩
theorem Ie{y x:TUnit}:∀(u:TUnit),y∈bp u→x∈bp y→x∈bp u:=by
 refine TUnit.ind fun u ih h hx=>?_
 rw[da]at h ⊢;rcases fD.1 h with rfl|h
 ·grind[da]
 ·refine fJ _ ?_;have key:∀(l:List TUnit),(∀k,k∈l→k∈u.kids)→y∈dt l→x∈dt l:=by
   intro l;induction l with
   |nil=>grind[fT]
   |cons k r ihr=>grind[bO]
  simp_all
theorem iP{y x u:TUnit}(h:y∈bp u)(hx:x∈bp y):x∈bp u:=Ie u h hx
theorem Py{x:TUnit}:∀(u:TUnit),x∈bp u→nU x≤nU u:=by
 refine TUnit.ind fun u ih h=>?_
 rw[da]at h;rcases fD.1 h with rfl|h
 ·omega
 ·have key:∀(l:List TUnit),(∀k,k∈l→k∈u.kids)→x∈dt l→nU x<nU u:=by
   intro l;induction l with
   |nil=>grind[fT]
   |cons k r ihr=>grind[bO,Nat.lt_of_le_of_lt,iz]
  grind
theorem dO{x u:TUnit}(h:x∈bp u):nU x≤nU u:=Py u h
section
variable{p:PId}{u w:TUnit}{r:List TUnit}
end
end Go.Ev
namespace Go.Ev
open Go
def kU(a b:PStep):Bool:=al a.kind b.kind&&eZ a.label b.label
mutual
def EV:PItem→PItem→Bool
 |⟨k,a,t,w,n,u,o,ne,l,f,s,ac,im,d,e,bs⟩,v=>
  (al k v.kind&&(al w v.where_&&(al n v.nth_&&(al ac v.act&&(al im v.item&&al d v.day)))))
  &&((eZ l v.label&&(eZ f v.for_&&(eZ e v.event&&(al s.kind v.start.kind&&(al s.day v.start.day&&eZ s.event v.start.event)))))
  &&((cJ kU a v.at_&&(cJ kU t v.to&&(cJ eZ o v.old&&cJ eZ ne v.new)))
  &&(yx u v.unit&&CO bs v.by_)))
def CO:List PItem→List PItem→Bool
 |[],[]=>true
 |k::r,[]=>false
 |k::r,x::s=>EV k x&&CO r s
 |[],x::s=>false
end
theorem RW:∀(l m:List PItem),CO l m=cJ EV l m:=by
 intro l;induction l with
 |nil=>intro m;cases m<;>(rw[CO];rfl)
 |cons x l ih=>intro m;cases m with|nil=>rw[CO];rfl|cons y m=>rw[CO,ih];rfl
theorem Uv(u v:PItem):EV u v=((al u.kind v.kind&&(al u.where_ v.where_&&(al u.nth_ v.nth_&&(al u.act v.act&&(al u.item v.item&&al u.day v.day)))))
  &&((eZ u.label v.label&&(eZ u.for_ v.for_&&(eZ u.event v.event&&(al u.start.kind v.start.kind&&(al u.start.day v.start.day&&eZ u.start.event v.start.event)))))
  &&((cJ kU u.at_ v.at_&&(cJ kU u.to v.to&&(cJ eZ u.old v.old&&cJ eZ u.new v.new)))
  &&(yx u.unit v.unit&&cJ EV u.by_ v.by_)))):=by
 cases u
 rw[EV,RW];rfl
noncomputable def DD(s:aP):Bool:=aw (aF (.ofNat s.length) 1)&&(aw (aF 16 (.ofNat s.length))&&(aw (aF (.ofNat (gD s 0).toNat) 97)&&(aw (aF 122 (.ofNat (gD s 0).toNat))&&eZ (Lib.trimS s [97,98,99,100,101,102,103,104,105,106,107,108,109,110,111,112,113,114,115,116,117,118,119,120,121,122,48,49,50,51,52,53,54,55,56,57,45]) [])))
def rm(n:Bool)(s:PStart):Bool:=bif al s.kind 0||al s.kind 2 then al s.day 0&&eZ s.event []else bif al s.kind 1 then(aw (aF s.day 0)&&aw (aF 1048576 s.day))&&eZ s.event []else bif al s.kind 3 then al s.day 0&&n else false
end Go.Ev
namespace Go.Ev
open Go
def bH(s:PStep)(u:TUnit):Bool:=al u.kind s.kind&&eZ u.label s.label
def gg:List PStep→List TUnit→List TUnit
 |[],l=>l
 |s::r,l=>gg r (l.flatMap fun x=>x.kids.filter (bH s))
def eQ(u:TUnit)(p:List PStep):List TUnit:=bif km p then(match p with
 |[]=>[u]
 |s::r=>gg r (bif nQ s then[u]else(bp u).filter (bH s)))else[]
noncomputable def aH(u:TUnit)(p:List PStep):PId×Int:=match eQ u p with
 |[]=>(b6,7)
 |[x]=>(bq x,0)
 |_=>(b6,8)
def iQ(p:PId)(u:TUnit):Bool:=aw (aF (.ofNat (aI p u).length) 2)
noncomputable def H4(p:PId)(u:TUnit):TUnit:=gD (aI p u) ((aI p u).length -2)
noncomputable def su(p:PId)(u:TUnit):PId:=bif iQ p u then bq (H4 p u)else b6
noncomputable def qv(p:PId)(u:TUnit):Int:=bif iQ p u then dD (cj p) (H4 p u).kids 0 else -1
def pG(p:PId)(u:TUnit):List PId:=(((aI p u).take ((aI p u).length -1)).map bq).reverse
structure PSpot where
 id:PId
 at_:Int
 deriving Inhabited
noncomputable def fj(s:PSpot):AV:=.agg [.int .i64 s.id.a,.int .i64 s.id.i,.int .i64 s.id.n,.int .i64 s.at_]
def dH:PSpot:=⟨b6,0⟩
noncomputable def nC(u:TUnit)(p:PId)(n:Int):PSpot×Int:=bif iQ p u then(⟨su p u,qv p u+n⟩,0)else(dH,9)
noncomputable def dc(w:Int)(u:TUnit)(p:PId):PSpot×Int:=bif al w 0 then(⟨p,0⟩,0)else bif al w 1 then(⟨p,.ofNat (ee p u).kids.length⟩,0)else bif al w 2 then nC u p 1 else nC u p 0
def ig(n:Int):Bool:=aw (aF n 0)&&aw (aF 3 n)
def cF(act item:Int):List aP→Nat→List PWord
 |[],_=>[]
 |s::r,n=>⟨s,act,item,.ofNat n⟩::cF act item r (n+1)
def b8(l:List PWord):List aP:=l.map fun w=>w.text
theorem f8(a i:Int):∀(l:List aP)(n:Nat),(cF a i l n).length=l.length
 |[],_=>rfl
 |s::r,n=>by rw[cF,cN,f8 a i r,cN]
mutual
def c9(a i:Int):TUnit→Nat→Nat→TUnit
 |⟨_,_,_,k,l,h,ws,ks⟩,n,w=>⟨a,i,.ofNat (n+1),k,l,cF a i (b8 h) w,cF a i (b8 ws) (w+h.length),fU a i ks (n+1) (w+h.length+ws.length)⟩
def fU(a i:Int):List TUnit→Nat→Nat→List TUnit
 |[],_,_=>[]
 |k::r,n,w=>c9 a i k n w::fU a i r (n+nU k) (w+(m8 k).length)
end
theorem CJ(a i:Int)(u:TUnit)(n w:Nat):c9 a i u n w=⟨a,i,.ofNat (n+1),u.kind,u.label,cF a i (b8 u.head) w,cF a i (b8 u.words) (w+u.head.length),fU a i u.kids (n+1) (w+u.head.length+u.words.length)⟩:=by cases u;rw[c9];rfl
theorem FV(a i:Int)(n w:Nat):fU a i [] n w=[]:=by rw[fU]
theorem Da(a i:Int)(k:TUnit)(r:List TUnit)(n w:Nat):fU a i (k::r) n w=c9 a i k n w::fU a i r (n+nU k) (w+(m8 k).length):=by rw[fU]
def vt(part:List aP):Nat→List aP→Nat→List Nat
 |0,_,_=>[]
 |f+1,l,i=>bif Nat.ble (i+part.length) l.length then(bif cJ eZ ((l.drop i).take part.length) part then i::vt part f l (i+part.length)else vt part f l (i+1))else[]
def uQ(l part:List aP):List Nat:=bif part.isEmpty then[]else vt part (l.length+1) l 0
end Go.Ev
namespace Go.Ev
open Go
def o7(w:PWord):Bool:=aw (al w.act 0&&(al w.item 0&&al w.at_ 0))
def DK(x:TUnit):Bool:=fL b6 x&&(aw (x.head.any o7)&&aw (x.words.any o7))
def Ho(u:TUnit):Bool:=ku u&&wJ DK u
def gI(w:PWord):PWord:=⟨w.text,0,0,0⟩
mutual
def cO:TUnit→TUnit
 |⟨_,_,_,k,l,h,w,ks⟩=>⟨0,0,0,k,l,h.map gI,w.map gI,tk ks⟩
def tk:List TUnit→List TUnit
 |[]=>[]
 |k::r=>cO k::tk r
end
theorem yG:∀(l:List TUnit),tk l=l.map cO
 |[]=>by rw[tk];rfl
 |k::r=>by rw[tk,yG r];rfl
theorem mU(u:TUnit):cO u=⟨0,0,0,u.kind,u.label,u.head.map gI,u.words.map gI,u.kids.map cO⟩:=by cases u;rw[cO,yG];rfl
theorem Qr{p:PId}{u:TUnit}(h:cj p u=false):iQ p u=false:=by unfold iQ;rw[AY h];rfl
theorem V7{p:PId}{u:TUnit}(h:iQ p u=false):su p u=b6:=by unfold su;simp_all
theorem Ph{p:PId}{u:TUnit}(h:iQ p u=false):qv p u= -1:=by unfold qv;simp_all
theorem Ig{p:PId}{u:TUnit}(h:iQ p u=true):su p u=bq (H4 p u):=by unfold su;simp_all
theorem Ih{p:PId}{u:TUnit}(h:iQ p u=true):qv p u=dD (cj p) (H4 p u).kids 0:=by unfold qv;simp_all
def oe(p:PId)(u:TUnit)(k:Nat):List PId:=((((aI p u).take ((aI p u).length -1)).drop k).map bq).reverse
theorem Eo(p:PId)(u:TUnit):oe p u 0=pG p u:=rfl
theorem DU(p:PId)(u:TUnit):oe p u ((aI p u).length -1)=[]:=by
 unfold oe;simp_all
theorem BZ(p:PId)(u:TUnit){k:Nat}(h:k+1<(aI p u).length):oe p u k=oe p u (k+1)++[bq (gD (aI p u) k)]:=by
 unfold oe;have h1:k<((aI p u).take ((aI p u).length -1)).length:=by grind
 rw[Ox h1,eE,List.reverse_cons];grind[gD]
theorem DY(p:PId)(u:TUnit)(k:Nat):(oe p u k).length≤(aI p u).length:=by grind[oe]
def lW(s:PStep)(u:TUnit):List TUnit:=(bp u).filter (bH s)
def dx(s:PStep)(l:List TUnit):List TUnit:=(dt l).filter (bH s)
theorem zx(s:PStep)(u:TUnit):lW s u=(bif bH s u then[u]else[])++dx s u.kids:=by
 unfold lW dx;rw[da,List.filter_cons];grind
theorem mE(s:PStep):dx s []=[]:=by unfold dx;rw[fT];rfl
theorem gE(s:PStep)(k:TUnit)(r:List TUnit):dx s (k::r)=lW s k++dx s r:=by grind[lW,dx,bO]
theorem mw(s:PStep)(u:TUnit):(lW s u).length≤nU u:=by grind[lW,FA]
theorem sE:∀(l m:List TUnit),eJ (l++m)=eJ l+eJ m
 |[],m=>by rw[mX,ph,eO]
 |x::r,m=>by rw[wx,bh,bh,sE r m,Nat.add_assoc]
theorem zl(q:TUnit→Bool):∀(l:List TUnit),eJ (l.filter q)≤eJ l
 |[]=>by simp_all
 |x::r=>by
  rw[List.filter_cons,bh];have:=zl q r;cases q x with
  |true=>rw[if_pos rfl,bh];omega
  |false=>grind
theorem zi(q:TUnit→Bool):∀(l:List TUnit),eJ (l.flatMap fun x=>x.kids.filter q)≤eJ l
 |[]=>by simp_all
 |x::r=>by
  rw[List.flatMap_cons,sE,bh];have:=zi q r;grind[zl,jQ]
theorem KD{n:Nat}:∀(l:List TUnit),(∀x,x∈l→nU x≤n)→eJ l≤n*l.length
 |[],_=>by simp_all[mX]
 |x::r,h=>by
  rw[bh,cN,Nat.mul_add,Nat.mul_one];have:=h x (fW ..);have:=KD r fun y hy=>h y (fJ _ hy)
  omega
theorem FO(s:PStep)(u:TUnit)(hp:∀x,x∈bp u→nU x≤nU u):eJ (lW s u)≤nU u*nU u:=by
 have h1:=KD (n:=nU u) (lW s u) fun x hx=>hp x (List.mem_filter.1 hx).1
 exact b0 h1 (Nat.mul_le_mul_left _ (mw s u))
theorem H9(l:List TUnit):gg [] l=l:=rfl
theorem I4{u:TUnit}{p:List PStep}(h:km p=false):eQ u p=[]:=by unfold eQ;simp_all
theorem Gp{u:TUnit}(h:km []=true):eQ u []=[u]:=by unfold eQ;simp_all
theorem Gr{u:TUnit}{s:PStep}{r:List PStep}(h:km (s::r)=true)(hb:nQ s=true):eQ u (s::r)=gg r [u]:=by
 unfold eQ;simp_all
theorem xQ{u:TUnit}{s:PStep}{r:List PStep}(h:km (s::r)=true)(hb:nQ s=false):eQ u (s::r)=gg r (lW s u):=by
 unfold eQ;rw[h];show gg r (bif nQ s then[u]else(bp u).filter (bH s))=_
 rw[hb];rfl
def cA(s:PStep)(l:List TUnit):List TUnit:=l.flatMap fun x=>x.kids.filter (bH s)
section
variable{s:PStep}{l m r r1 X:List TUnit}{w w1:TUnit}{n N:Nat}{rs0:List PStep}{R at0:List TUnit}
theorem IF:cA s []=[]:=rfl
theorem wN:cA s (w::r)=w.kids.filter (bH s)++cA s r:=by grind[cA]
theorem IQ(rs:List PStep):gg (s::rs) l=gg rs (cA s l):=rfl
theorem FP:eJ (cA s l)≤eJ l:=zi _ l
theorem fA(h:R=gg (s::rs0) l∧eJ l≤N)(e:cA s []=cA s l):R=gg rs0 []∧eJ []≤N:=⟨by rw[h.1,IQ,←e];rfl,by simp_all[mX]⟩
theorem fB(h:R=gg (s::rs0) l∧eJ l≤N)(e:m++cA s []=cA s l):R=gg rs0 m∧eJ m≤N:=by grind[IF,IQ,FP]
theorem gA(h:cA s (w1::r1)=X):w1.kids.filter (bH s)++cA s r1=X:=wN.symm.trans h
theorem gB(h:n=m.length∧m++cA s (w1::r1)=X∧m.length+eJ (w1::r1)<N):n=m.length∧m++(w1.kids.filter (bH s)++cA s r1)=X∧m.length+(eJ w1.kids+eJ r1)<N:=⟨h.1,wN (s:=s)▸h.2.1,by grind[bh,jQ]⟩
theorem hA0(h:(w::r).filter (bH s)++cA s r1=X)(q:bH s w=false):r.filter (bH s)++cA s r1=X:=by simp_all
theorem hB0(h:n=m.length∧m++((w::r).filter (bH s)++cA s r1)=X∧m.length+(eJ (w::r)+eJ r1)<N)(q:bH s w=false):n=m.length∧m++(r.filter (bH s)++cA s r1)=X∧m.length+(eJ r+eJ r1)<N:=⟨h.1,by simp_all,by grind[bh]⟩
theorem hB1(h:n=m.length∧m++((w::r).filter (bH s)++cA s r1)=X∧m.length+(eJ (w::r)+eJ r1)<N)(q:bH s w=true):n+1=(m++[w]).length∧(m++[w])++(r.filter (bH s)++cA s r1)=X∧(m++[w]).length+(eJ r+eJ r1)<N:=⟨by simp_all,by simp_all,by grind[It,bh]⟩
end
section
variable{p:PId}{u:TUnit}{i:Int}{l:List PId}
theorem NT(hn:i=Int.ofNat (aI p u).length -2)(h0:aF i 0=false):[bq (gD (aI p u) i.toNat)]=oe p u (i-1+1).toNat:=by
 have h0:=aG h0;simp only[aR]at hn;have e:(i-1+1).toNat=i.toNat:=by omega
 rw[e,BZ p u (k:=i.toNat) (by omega),show i.toNat+1=(aI p u).length -1 by omega,DU,ph]
theorem HA(h:l=oe p u (i+1).toNat)(hi:i+2≤(aI p u).length)(h0:aF i 0=false):l++[bq (gD (aI p u) i.toNat)]=oe p u (i-1+1).toNat:=by
 have h0:=aG h0;grind[BZ]
theorem R7(h:l=oe p u (i+1).toNat)(hi: -1≤i)(h0:aF i 0=true):l=pG p u:=by
 have h0:=aA h0;rw[h,show(i+1).toNat=0 by omega,Eo]
theorem R6(hn:i=Int.ofNat (aI p u).length -2)(h0:aF i 0=true):pG p u=[]:=by
 have h0:=aA h0;simp only[aR]at hn;rw[←Eo];have:(aI p u).length -1=0:=by omega
 grind[DU]
end
theorem KU{s:PStep}{l m:List TUnit}(h:dx s l=m)(hm:m≠[]):l≠[]:=by grind[mE]
theorem VA(l:List TUnit){z:AV}(hz:z.top=0):ax (l.map aY++[z])=0:=jT.2 fun x hx=>by grind[iZ]
theorem oM{l x r:List TUnit}{w:TUnit}{j:Nat}(h1:l.drop j=x)(h2:x=w::r):nU w+eJ r≤eJ l:=by
 have e:l=l.take j++(w::r):=by grind[List.take_append_drop]
 grind[sE,bh]
end Go.Ev
namespace Go.Ev
open Go
def qx(l:List aP)(n:Int):Bool:=qj l&&aw (aF (.ofNat l.length) n)
def Bo(n:Int):Bool:=aw (aF n 0)&&aw (aF 256 n)
theorem I3{u:TUnit}(p:List PStep)(h:nU u≤2^11):(eQ u p).length≤2^22:=by
 have key:∀(rs:List PStep)(l:List TUnit),eJ (gg rs l)≤eJ l:=by
  intro rs;induction rs with
  |nil=>intro l;exact ao _
  |cons s r ih=>grind[IQ,FP]
 unfold eQ;cases km p with
 |false=>simp_all
 | true=>
  simp only[cond_true];cases p with
  |nil=>simp_all
  | cons s r=>
   simp only[];refine b0 (yJ _) (b0 (key r _) ?_);cases nQ s with
   |true=>grind[bh,mX]
   |false=>
    simp only[cond_false];have h1:=FO s u fun x hx=>dO hx
    have h2:nU u*nU u≤2^11*2^11:=Nat.mul_le_mul h h;exact b0 h1 h2
theorem GE{u:TUnit}{p:List PStep}(h:eQ u p=[]):aH u p=(b6,7):=by grind[aH]
theorem GD{u x:TUnit}{p:List PStep}(h:eQ u p=[x]):aH u p=(bq x,0):=by grind[aH]
theorem GC{u x y:TUnit}{r:List TUnit}{p:List PStep}(h:eQ u p=x::y::r):aH u p=(b6,8):=by grind[aH]
def xy(own:PId)(i:Int)(ok:Bool)(n:Int):PSpot×Int:=bif ok then(⟨own,i+n⟩,0)else(dH,9)
def Cx(e:Int)(sp:PSpot)(e2:Int):PSpot×Int:=bif al e 0 then(bif al e2 0 then(sp,0)else(dH,e2))else(dH,e)
def nO(p q own:PId)(at_:Int)(ok c bs:Bool)(sp:PSpot)(e:Int):PSpot×Int:=
 bif aw ok||((aw (bg q p)&&c)||(bg q p&&aw bs))then(dH,9)
 else bif bg q p then(⟨own,at_⟩,0)
 else bif al e 0&&(bg sp.id own&&aF at_ sp.at_)then(⟨sp.id,sp.at_-1⟩,e)else(sp,e)
end Go.Ev
