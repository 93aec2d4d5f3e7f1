/- An abstract machine for runs of the program, proved sound against the model: part 6. No conditions. -/
import Derived.Test.YtaepacpodblomaaGreatDoorMach5
import Derived.Shelf.SortM.Plain
import Derived.Shelf.SortM.SortNone
import Derived.Shelf.SlSortCmp.NoneTotal
import Derived.Shelf.SlicesG.CompactI
import Derived.Lib.QuietBelow
import GoSem.ClaimJoined
import Derived.Calls
import Derived.RunT
import Derived.Below
import Derived.Shelf.Strings.FuncGrows
import Derived.Laws.RangeAny
import Derived.Lib.Join
import Derived.Lib.Repeat
import Derived.Lib.SlTrimSet
namespace Go.Ev
open Go Go.Sort Go.Proofs
section
variable{P:Program}{G:eg}{pl:Pl}{M:dn}{h:AHeap}{w w':World}
theorem tJ(hr:cF pl M h w){id:Nat}{p:Place}{sz:Nat}{op:Bool}{ep:Nat}{xs xs':List AV}{c c':Array Value}{t:TypeId}(hp:pl id=some p)(hg:h.get id=some (.row sz op ep xs))
  (hb:w.heap[p.blk]?=some (.cells c t (0,0)))(hw:w'.heap[p.blk]?=some (.cells c' t (0,0)))(hcs:c'.size=c.size)(hlen:xs'.length=xs.length)(hel:∀x,x∈xs'→x.cells.length=sz∧Sc x)
  (hcell:∀i x j y,xs'[i]?=some x→x.cells[j]?=some y→VRel pl M y (c'.getD (i*sz+j) undef))(hs:WSame w w')(hsz:w.heap.size≤w'.heap.size)(hk:∀b,b<w.heap.size→b≠p.blk→w'.heap[b]?=w.heap[b]?):
  cF pl M (h.put id (.row sz op ep xs')) w'∧cT h pl M w (h.put id (.row sz op ep xs')) pl M w':=by
 have ho:=hr.obj id p _ hp hg;rw[hb]at ho;simp only[bu]at ho;obtain⟨h1,h2,h3,h4,h5,h6,h7,h8⟩:=ho;have e:=yF (pl:=pl) hp;have:=cF.change (p':=p) (o':=.row sz op ep xs') hr hp hg (.inl rfl) hs hsz hk (.inl rfl) (ww.1 hw).1 (by
  rw[e,hw];simp only[bu];refine⟨h1,h2,by omega,by omega,trivial,h6,fun e=>by simp_all,⟨?_,hel,fun i x j y q1 q2=>?_⟩⟩
  ·grind[cases InMem]
  simp_all)
 simp_all
variable{β:Type}[Inhabited β]
theorem qt{enc:β→Value}{blk off n:Nat}{d:Array β}{os:Array Obj}{c:Array Value}{t:TypeId}{fr:Nat×Nat}(hb:w.heap[blk]?=some (.cells c t fr)):
  (grow (putRow enc (Sort.ahead w n) blk off d) os).heap[blk]?=some (.cells (putCells enc off d c) t fr):=by
 grind[grow,putRow,mapBlock,Sort.ahead,onCells]
theorem kJ{enc:β→Value}{blk off n:Nat}{d:Array β}{os:Array Obj}{b:Nat}(hb:b<w.heap.size)(hne:b≠blk):
  (grow (putRow enc (Sort.ahead w n) blk off d) os).heap[b]?=w.heap[b]?:=by
 simp only[grow,putRow,mapBlock,Sort.ahead];grind
theorem nH{enc:β→Value}{blk off n:Nat}{d:Array β}{os:Array Obj}:WSame w (grow (putRow enc (Sort.ahead w n) blk off d) os):=⟨rfl,rfl,rfl,Nat.le_add_right _ _⟩
theorem BM{enc:β→Value}{blk off n:Nat}{d:Array β}{os:Array Obj}:w.heap.size≤(grow (putRow enc (Sort.ahead w n) blk off d) os).heap.size:=by simp_all
theorem nE{enc:β→Value}{d:Array β}{c:Array Value}{k:Nat}(hk:k<d.size)(hc:k<c.size):(putCells enc 0 d c).getD k undef=enc d[k]!:=by simp_all[putCells]
theorem qY(hr:cF pl M h w){id ep len sz:Nat}{op:Bool}{cap:Option Nat}{xs:List AV}{x:Value}(hv:VRel pl M (.slice id ep 0 len cap) x)(hg:h.get id=some (.row sz op ep xs))(hl:0<len):
  ∃p c t cap',pl id=some p∧w.heap[p.blk]?=some (.cells c t (0,0))∧x=.slice (some ⟨p.blk,0,none⟩) len cap'∧InMem pl M c 0 sz xs∧0<sz∧p.blk<w.heap.size:=by
 cases hv with
 | slice hp he hle hk ha=>
  rename_i cap' a p;have ho:=hr.obj id p _ hp hg;cases hb:w.heap[p.blk]? with
  |none=>grind[bu]
  |some ob=>
   rw[hb]at ho;cases ob<;>simp only[bu]at ho
   rename_i c t fr;obtain⟨h1,h2,h3,h4,h5,h6,h7,h8⟩:=ho;subst h5;obtain⟨k1,_⟩:=ha (by omega);have k2:a=⟨p.blk,0,none⟩:=by grind
   exact⟨p,c,t,_,hp,hb,by rw[k2],h8,h6,(ww.1 hb).1⟩
def bX(zs:List Int):List Int:=zs.mergeSort fun x y=>decide (x≤y)
theorem je(zs:List Int):(bX zs).Perm zs:=List.mergeSort_perm ..
theorem oF(zs:List Int):(bX zs).Pairwise (fun a b=>a≤b):=by
 have:=List.pairwise_mergeSort (le:=fun x y:Int=>decide (x≤y)) (by grind) (by grind) zs;exact this.imp (by simp)
theorem C4{c:Array Value}{sz:Nat}{xs:List AV}(hm:InMem pl M c 0 sz xs){i:Nat}{x:AV}(hx:xs[i]?=some x){j:Nat}(hj:j<sz):i*sz+j<c.size∧∃y,x.cells[j]?=some y∧VRel pl M y (c.getD (i*sz+j) undef):=by
 have h1:=hm.fit;have hi:=(gy.1 hx).1;have h2:=(hm.elem x (bi hx)).1;have h3:(i+1)*sz≤xs.length*sz:=ee _ hi;rw[js]at h3;refine⟨by omega,x.cells[j],by simp_all,?_⟩;have:=hm.cell i x j _ hx (lp (by omega:j<x.cells.length));simp_all
theorem sZ{f:FuncId}(hE:∀vs w,(callFunc f vs).run P w=.ok (.enter f vs) w)
  (hC:∀(blk off cap:Nat)(zs:List Int)(w:World),Holds (Value.int .i64) w blk off zs.toArray→blk<w.heap.size→zs.length<4611686018427387904→
   Calls P f #[.slice (some ⟨blk,off,none⟩) zs.length cap] w fun e w'=>e=.returned (.tuple #[])∧∃n os,w'=grow (putRow (Value.int .i64) (Sort.ahead w n) blk off (zs.mergeSort fun x y=>decide (x≤y)).toArray) os)
  {id ep:Nat}{op:Bool}{cap:Option Nat}(zs:List Int)(hg:h.get id=some (.row 1 op ep (zs.map ak)))(hz:0<zs.length)(hb:zs.length<4611686018427387904):
  aL P G f [.slice id ep 0 zs.length cap] h (fun v h'=>v=.tuple []∧h'=h.put id (.row 1 op ep ((bX zs).map ak))):=by
 intro pl M w vs hG hr hv;obtain⟨a,rfl,hv1⟩:=Sz hv;obtain⟨p,c,t,cap',hp,hbl,rfl,hm,_,hlt⟩:=qY hr hv1 hg hz;have hcell:∀j z,zs[j]?=some z→j<c.size∧c.getD j undef=.int .i64 z:=by
  intro j z hj;have hx:(zs.map ak)[j]?=some (ak z):=by simp_all
  obtain⟨q1,y,q2,q3⟩:=C4 hm hx (j:=0) (by omega);rw[Nat.mul_one,pf]at q1 q3;simp[ak,AV.cells]at q2;subst q2;refine⟨q1,?_⟩;cases hq:c.getD j undef<;>rw[hq]at q3<;>cases q3
  rfl
 refine .inl ⟨hE _ _,Calls.mono (hC p.blk 0 cap' zs w (fun j hj=>?_) hlt hb) fun e w' ⟨he,n,os,hw⟩=>?_⟩
 ·have hj':j<zs.length:=by omega
  obtain⟨q1,q2⟩:=hcell j zs[j] (lp hj');rw[eE];refine⟨?_,?_⟩
  ·simp only[World.cell?,hbl];simp only[Option.isSome_none,gw,if_false];rw[FW q1];simp_all
  grind[World.frozen?]
 ·refine⟨.tuple #[],.tuple [],_,he,⟨rfl,rfl⟩,pl,M,rX,?_⟩;have hlen:(bX zs).length=zs.length:=(je zs).length_eq;have hw1:w'.heap[p.blk]?=some (.cells (putCells (Value.int .i64) 0 (bX zs).toArray c) t (0,0)):=by rw[hw];exact qt hbl
  obtain⟨r1,r2⟩:=tJ (w':=w') (xs':=(bX zs).map ak) hr hp hg hbl hw1 (by simp[putCells]) (by simp_all) (fun x hx=>by
    obtain⟨z,_,rfl⟩:=ka.1 hx;exact⟨rfl,fun y hy=>by simp[ak,AV.cells]at hy;subst hy;rfl⟩) (fun i x j y q1 q2=>by
    rw[qQ]at q1;obtain⟨z,e1,rfl⟩:=FX.1 q1;have hi:=(gy.1 e1).1;cases j with
    |succ j=>grind[ak,AV.cells]
    |zero=>
     simp[ak,AV.cells]at q2;subst q2;rw[Nat.mul_one,pf,nE (by omega) (hcell i zs[i] (lp (by omega))).1];have:(bX zs).toArray[i]! =z:=by simp_all
     rw[this];exact .int _ _) (by grind[nH]) (by simp_all) (fun b hb hne=>by grind[kJ])
  exact⟨r1,r2,ar _⟩
def am(zs:List Int):List Int:=Lib.compact zs
theorem xb(zs:List Int):(am zs).length≤zs.length:=by grind[am,Lib.compact,Lib.compactUpTo]
theorem ox{f:FuncId}(hE:∀vs w,(callFunc f vs).run P w=.ok (.enter f vs) w)
  (hC:∀(blk off cap:Nat)(zs:List Int)(w:World),Holds (Value.int .i64) w blk off zs.toArray→zs.length≤9223372036854775807→zs.length≤cap→
   Calls P f #[.slice (some ⟨blk,off,none⟩) zs.length cap] w fun e w'=>e=.returned (.slice (some ⟨blk,off,none⟩) (Lib.compact zs).length cap)∧∃q,w'=putRow (Value.int .i64) (Sort.ahead w q) blk off (Lib.compact zs++List.replicate (zs.length-(Lib.compact zs).length) 0).toArray)
  {id ep:Nat}{op:Bool}(zs:List Int)(hg:h.get id=some (.row 1 op ep (zs.map ak)))(hz:0<zs.length)(hb:zs.length<4611686018427387904):
  aL P G f [.slice id ep 0 zs.length none] h (fun v h'=>v=.slice id ep 0 (am zs).length none∧h'=h.put id (.row 1 op ep ((am zs++List.replicate (zs.length-(am zs).length) 0).map ak))):=by
 intro pl M w vs hG hr hv;obtain⟨a,rfl,hv1⟩:=Sz hv;obtain⟨p,c,t,cap',hp,hbl,rfl,hm,_,hlt⟩:=qY hr hv1 hg hz;have hcell:∀j z,zs[j]?=some z→j<c.size∧c.getD j undef=.int .i64 z:=by
  intro j z hj;have hx:(zs.map ak)[j]?=some (ak z):=by simp_all
  obtain⟨q1,y,q2,q3⟩:=C4 hm hx (j:=0) (by omega);rw[Nat.mul_one,pf]at q1 q3;simp[ak,AV.cells]at q2;subst q2;refine⟨q1,?_⟩;cases hq:c.getD j undef<;>rw[hq]at q3<;>cases q3
  rfl
 have hle:=xb zs;have hcap:zs.length≤cap':=by grind[cases VRel]
 generalize hnew:am zs++List.replicate (zs.length-(am zs).length) 0=ns;have hnl:ns.length=zs.length:=by grind
 refine .inl ⟨hE _ _,Calls.mono (hC p.blk 0 cap' zs w (fun j hj=>?_) (by omega) hcap) fun e w' ⟨he,n,hw⟩=>?_⟩
 ·have hj':j<zs.length:=by omega
  obtain⟨q1,q2⟩:=hcell j zs[j] (lp hj');rw[eE];refine⟨?_,?_⟩
  ·simp only[World.cell?,hbl];simp only[Option.isSome_none,gw,if_false];rw[FW q1];simp_all
  grind[World.frozen?]
 ·have hw2:w'=grow (putRow (Value.int .i64) (Sort.ahead w n) p.blk 0 ns.toArray) #[]:=by rw[hw,grow_empty];congr 2
  have hrel:VRel pl M (.slice id ep 0 (am zs).length none) (.slice (some ⟨p.blk,0,none⟩) (am zs).length cap'):=by
   cases hv1 with
   |slice hp he hl hk ha=>
    refine .slice hp he (by omega) hk fun e=>?_
    grind
  refine⟨_,_,_,he,⟨rfl,rfl⟩,pl,M,hrel,?_⟩;have hw1:w'.heap[p.blk]?=some (.cells (putCells (Value.int .i64) 0 ns.toArray c) t (0,0)):=by grind[qt]
  obtain⟨r1,r2⟩:=tJ (w':=w') (xs':=ns.map ak) hr hp hg hbl hw1 (by simp[putCells]) (by simp_all) (fun x hx=>by
    obtain⟨z,_,rfl⟩:=ka.1 hx;exact⟨rfl,fun y hy=>by simp[ak,AV.cells]at hy;subst hy;rfl⟩) (fun i x j y q1 q2=>by
    rw[qQ]at q1;obtain⟨z,e1,rfl⟩:=FX.1 q1;have hi:=(gy.1 e1).1;cases j with
    |succ j=>grind[ak,AV.cells]
    |zero=>
     simp[ak,AV.cells]at q2;subst q2;rw[Nat.mul_one,pf,nE (by omega) (hcell i zs[i] (lp (by omega))).1];have:ns.toArray[i]! =z:=by simp_all
     rw[this];exact .int _ _) (by grind[nH]) (by simp_all) (fun b hb hne=>by grind[kJ])
  exact⟨r1,r2,ar _⟩
theorem DA{f:FuncId}(hE:∀vs w,(callFunc f vs).run P w=.ok (.enter f vs) w)
  (hC:∀(p:Option Addr)(cap:Nat)(w:World),Calls P f #[.slice p 0 cap] w fun e w'=>e=.returned (.tuple #[])∧w'=w):aA P G f [.nils] (.tuple []):=by
 intro h pl M w vs hG hr hv;obtain⟨a,rfl,hv1⟩:=Sz hv;cases hv1
 exact .inl ⟨hE _ _,Calls.mono (hC none 0 w) fun e w' ⟨he,hw⟩=>⟨.tuple #[],.tuple [],h,he,⟨rfl,rfl⟩,pl,M,rX,by simp_all[StepF.refl]⟩⟩
theorem vc{f:FuncId}{g:Fn}(hE:∀vs w,(callFunc f vs).run P w=.ok (.enter f vs) w)
  (hC:∀(p:Option Addr)(cap:Nat)(fv:Value)(w:World),Calls P f #[.slice p 0 cap,fv] w fun e w'=>e=.returned (.tuple #[])∧w'=w):aA P G f [.nils,.func g [] []] (.tuple []):=by
 intro h pl M w vs hG hr hv;obtain⟨a,b,rfl,hv1,hv2⟩:=Bv hv;cases hv1
 exact .inl ⟨hE _ _,Calls.mono (hC none 0 b w) fun e w' ⟨he,hw⟩=>⟨.tuple #[],.tuple [],h,he,⟨rfl,rfl⟩,pl,M,rX,by simp_all[StepF.refl]⟩⟩
def EY{α:Type}(cmp:α→α→Int)(a b:α):Bool:=decide (cmp a b<0)
theorem BB{f g:FuncId}{sz:Nat}(hGT:iF G)(hE:∀vs w,(callFunc f vs).run P w=.ok (.enter f vs) w)(hg2:∀args w,(callFunc g args).run P w=.ok (.enter g args) w)
  (hC:∀(m:Nat)(enc:Fin (m+1)→List Value)(cf:Fin (m+1)→Fin (m+1)→Int)(blk off cap:Nat)(d:Array (Fin (m+1)))(w:World),(∀x,(enc x).length=sz)→(∀x,∀v∈enc x,v.oneCell'=true)→SWO (ltOf cf)→
   CmpLays P g #[] enc sz cf blk off d.size w→HoldsK enc sz w blk off d→blk<w.heap.size→d.size<4611686018427387904→
   Calls P f #[.slice (some ⟨blk,off,none⟩) d.size cap,.func (.func g) #[] #[]] w fun e w'=>e=.returned (.tuple #[])∧∃d' n os,PermIn 0 d.size d d'∧SortedIn (ltOf cf) 0 d.size d'∧w'=sortWorldK enc sz w blk off n d' os)
  {α:Type}[Inhabited α](enc:α→AV)(cmp:α→α→Int)(hO:SWO (EY cmp))(hag:∀a,∃cs,enc a=.agg cs)(htop:∀a,(enc a).top=0)
  (l:List α)(hcmp:∀a,a∈l→∀b,b∈l→aA P G g [enc a,enc b] (.int .i64 (cmp a b)))
  {oid ep:Nat}{op:Bool}{cap:Option Nat}(hg:h.get oid=some (.row sz op ep (l.map enc)))(hz:0<l.length)(hb:l.length<4611686018427387904):
  aL P G f [.slice oid ep 0 l.length cap,.func (.func g) [] []] h (fun v h'=>∃l':List α,(l'.Perm l∧l'.Pairwise fun a b=>EY cmp b a=false)∧v=.tuple []∧h'=h.put oid (.row sz op ep (l'.map enc))):=by
 intro pl M w vs hG hr hv;obtain⟨a,fv,rfl,hv1,hv2⟩:=Bv hv;have e2:=zw hv2;subst e2;obtain⟨p,c,t,cap',hp,hbl,rfl,hm,hsz0,hlt⟩:=qY hr hv1 hg hz;obtain⟨m,hm1⟩:∃m,l.length=m+1:=⟨l.length-1,by omega⟩
 have hfit:=hm.fit;rw[b9,eE,hm1]at hfit;have helem:∀i:Fin (m+1),(l.map enc)[i.1]?=some (enc l[i.1]!):=fun i=>by
  have:=i.2;rw[qQ,lp (by omega),getElem!_pos l i.1 (by omega)];rfl
 have hmul:∀i:Fin (m+1),i.1*sz+sz≤(m+1)*sz:=fun i=>by have:=ee sz (Nat.succ_le_of_lt i.2);rwa[qZ]at this
 generalize hcof:(fun i:Fin (m+1)=>(List.range sz).map fun j=>c.getD (i.1*sz+j) undef)=cellsOf;have cl:∀i,(cellsOf i).length=sz:=fun i=>by rw[←hcof];simp
 have cg:∀i j,j<sz→(cellsOf i)[j]?=some (c.getD (i.1*sz+j) undef):=fun i j hj=>by rw[←hcof];simp[hj]
 generalize hd:(Array.ofFn (n:=m+1) id)=d;have hds:d.size=m+1:=by rw[←hd];simp
 have hdg:∀j (hj:j<m+1),d[j]! =⟨j,hj⟩:=fun j hj=>by rw[getElem!_pos d j (by omega)];subst hd;simp
 have hflat:∀(dk:Array (Fin (m+1))),dk.size=m+1→∀i j,i<m+1→j<sz→(flatK cellsOf sz dk)[i*sz+j]! =c.getD ((dk[i]!).1*sz+j) undef:=fun dk hdk i j hi hj=>by
  have h1:i*sz+j<dk.size*sz:=by have:=ee sz (Nat.succ_le_of_lt hi);rw[qZ]at this;rw[hdk];omega
  rw[get_flatK cellsOf sz dk _ h1];have h2:(i*sz+j)/sz=i:=by rw[Nat.mul_comm,Nat.mul_add_div hsz0,Nat.div_eq_of_lt hj,pf]
  have h3:(i*sz+j)%sz=j:=by rw[Nat.mul_comm,Nat.mul_add_mod,Nat.mod_eq_of_lt hj]
  rw[h2,h3,getElem!_pos _ j (by rw[cl];exact hj)];have:=cg (dk[i]!) j hj;rw[lp (by rw[cl];exact hj)]at this;simpa using this
 have hH:HoldsK cellsOf sz w p.blk 0 d:=by
  intro k hk;rw[size_flatK,hds]at hk;have hi:k/sz<m+1:=Nat.div_lt_of_lt_mul (by rw[Nat.mul_comm];exact hk);have hj:k%sz<sz:=Nat.mod_lt _ hsz0;have hk2:k/sz*sz+k%sz=k:=by rw[Nat.mul_comm];exact Nat.div_add_mod k sz
  have:=hflat d hds (k/sz) (k%sz) hi hj;rw[hdg _ hi,hk2]at this;rw[this,eE];have hkc:k<c.size:=by omega
  refine⟨?_,by simp[World.frozen?,hbl]⟩;simp only[World.cell?,hbl];simp only[Option.isSome_none,gw,if_false];rw[FW hkc];simp[Array.getD,hkc]
 have hrelE:∀(i:Fin (m+1)) cs,enc l[i.1]! =.agg cs→cs.length=sz∧(∀y,y∈cs→cH y=true)∧∀(j:Nat)(y:AV),cs[j]?=some y→VRel pl M y (c.getD (i.1*sz+j) undef):=by
  intro i cs hcs;have h1:=hm.elem _ (bi (helem i));rw[hcs]at h1;refine⟨h1.1,h1.2,fun j y hj=>?_⟩;have:=hm.cell i.1 _ j y (helem i) (by rw[hcs];exact hj);rwa[eE]at this
 have hone:∀i,∀v∈cellsOf i,v.oneCell'=true:=by
  intro i v hvm;obtain⟨j,hj,e⟩:=FZ hvm;rw[cl]at hj;have h1:=cg i j hj;rw[lp (by rw[cl];exact hj),e]at h1;obtain⟨cs,hcs⟩:=hag l[i.1]!;obtain⟨k1,k2,k3⟩:=hrelE i cs hcs;have:=k3 j cs[j] (lp (by omega));cases h1
  exact this.one (k2 _ (Do _))
 have hmemL:∀i:Fin (m+1),l[i.1]!∈l:=fun i=>by
  have:=i.2;rw[getElem!_pos l i.1 (by omega)];exact Do _
 have hlays:CmpLays P g #[] cellsOf sz (fun i j=>cmp l[i.1]! l[j.1]!) p.blk 0 d.size w:=by
  intro n os dk hdk x y;generalize hW:sortWorldK cellsOf sz w p.blk 0 n dk os=W;have hWo:∀b,b<w.heap.size→b≠p.blk→W.heap[b]?=w.heap[b]?:=fun b h1 h2=>by rw[←hW];exact kJ h1 h2
  have hrW:cF (fun _=>none) M AHeap.none W:=qw (pl:=fun _=>none) (n:=0) (g:=AHeap.none.get) ⟨fun _ _ h=>by simp at h,fun _ _ _ h=>by simp at h,fun _ _ h=>by simp at h,fun _ _ _ _ h=>by simp at h,fun b c' hM=>by
   obtain⟨t',fr,q⟩:=hr.imm b c' hM;refine⟨t',fr,?_⟩;rw[hWo b (hr.memLt hM) (fun e=>by have:=hr.sep oid p hp;rw[←e,hM]at this;cases this)];exact q,fun _ _ h=>by simp at h⟩
  have hrel:∀i:Fin (m+1),VRel (fun _=>none) M (enc l[i.1]!) (.agg (cellsOf i).toArray):=by
   intro i;obtain⟨cs,hcs⟩:=hag l[i.1]!;obtain⟨k1,k2,k3⟩:=hrelE i cs hcs;have ht:=htop l[i.1]!;rw[hcs]at ht ⊢;refine .agg (by simp[cl,k1]) k2 fun j y hj=>?_
   have hj':j<sz:=by rw[←k1];exact(gy.1 hj).1
   have e:(cellsOf i).toArray.getD j undef=c.getD (i.1*sz+j) undef:=by
    have:=cg i j hj';rw[gr,nP,this];rfl
   rw[e];exact(k3 j y hj).none (jP.1 ht y (bi hj))
  have hc:=hcmp _ (hmemL x) _ (hmemL y) AHeap.none (fun _=>none) M W #[.agg (cellsOf x).toArray,.agg (cellsOf y).toArray] (hG.none hGT) hrW ⟨rfl,fun j z hj=>by
   match j,hj with
   |0,hj=>cases hj;exact hrel x
   |1,hj=>cases hj;exact hrel y⟩
  rcases hc with⟨h1,h2⟩|⟨cv,w',v,h',h1,h2,h3⟩
  ·refine Calls.mono h2 fun e w' ⟨cv,v,h',k1,k2,pl',M',k3,k4,k5,k6⟩=>?_
   obtain⟨k2,_⟩:=k2;subst k2;cases k3
   refine⟨k1,?_⟩;obtain⟨q,hq⟩:=regrown_of_below (w:=W) (w':=w') ⟨k5.os,k5.tape,k5.out,k5.size,fun b hb=>k5.kept b hb fun id p h=>by simp at h⟩;refine⟨w'.drawn-W.drawn,q.os,?_⟩;have hd1:w'.drawn=q.d:=by rw[hq];rfl
   have hd2:=k5.drawn;have:redrawn W q.d=W.drewN (w'.drawn-W.drawn):=by
    show({W with drawn:=q.d}:World)={W with drawn:=W.drawn+(w'.drawn-W.drawn)}
    congr 1;omega
   rw[←this];exact hq
  ·rw[hg2]at h1;cases h1
 refine .inl ⟨hE _ _,?_⟩;have hcall:=hC m cellsOf (fun i j=>cmp l[i.1]! l[j.1]!) p.blk 0 cap' d w cl hone ⟨fun x=>hO.irrefl _,fun x y z=>hO.trans _ _ _,fun x y z=>hO.ntrans _ _ _⟩ hlays hH hlt (by omega);rw[show d.size=l.length by omega]at hcall;refine Calls.mono hcall fun e w' ⟨he,d',n,os,hP,hS,hw⟩=>?_
 obtain⟨hp1,_,hp3⟩:=hP;have hd's:d'.size=m+1:=by omega
 have hperm:d'.toList.Perm d.toList:=by
  have e1:d'.extract 0 l.length=d':=by rw[show l.length=d'.size by omega];exact Array.extract_size
  have e2:d.extract 0 l.length=d:=by rw[show l.length=d.size by omega];exact Array.extract_size
  rwa[e1,e2]at hp3
 have hdl:d.toList.map (fun i=>l[i.1]!)=l:=by
  apply List.ext_getElem?;intro i;by_cases hi:i<l.length
  ·rw[qQ,Array.getElem?_toList,FW (by omega),lp hi];have:=hdg i (by omega);rw[getElem!_pos d i (by omega)]at this;rw[this];show some (l[i]!)=some l[i]
   rw[getElem!_pos l i hi]
  ·rw[List.getElem?_eq_none (by simp;omega),List.getElem?_eq_none (by omega)]
 have hl':(d'.toList.map (fun i=>l[i.1]!)).length=l.length:=by simp;omega
 refine⟨.tuple #[],.tuple [],_,he,⟨d'.toList.map (fun i=>l[i.1]!),⟨?_,?_⟩,rfl,rfl⟩,pl,M,rX,?_⟩
 ·have:=hperm.map (fun i=>l[i.1]!);rwa[hdl]at this
 ·rw[JP];intro i j hi hj hij;have hi':i<d'.size:=by simpa using hi
  have hj':j<d'.size:=by simpa using hj
  have:=hS i j (bH _) hij (by omega);rw[getElem!_pos d' i hi',getElem!_pos d' j hj']at this;simpa[EY,ltOf]using this
 ·have hw1:w'.heap[p.blk]?=some (.cells (putCells id 0 (flatK cellsOf sz d') c) t (0,0)):=by rw[hw];exact qt hbl
  obtain⟨r1,r2⟩:=tJ (w':=w') (xs':=(d'.toList.map (fun i=>l[i.1]!)).map enc) hr hp hg hbl hw1 (by simp[putCells]) (by simp;omega) (fun x hx=>by
    obtain⟨z,h1,rfl⟩:=ka.1 hx;obtain⟨i,_,rfl⟩:=ka.1 h1;exact hm.elem _ (bi (helem i))) (fun i x j y q1 q2=>by
    rw[qQ,qQ,Array.getElem?_toList]at q1;obtain⟨z,e1,rfl⟩:=FX.1 q1;obtain⟨k,e2,rfl⟩:=FX.1 e1;have hi:i<d'.size:=(ww.1 e2).1;obtain⟨cs,hcs⟩:=hag l[k.1]!;obtain⟨k1,k2,k3⟩:=hrelE k cs hcs;rw[hcs]at q2;have hj:j<sz:=by rw[←k1];exact(gy.1 q2).1
    have hb1:i*sz+j<(m+1)*sz:=by have:=ee sz (Nat.succ_le_of_lt (show i<m+1 by omega));rw[qZ]at this;omega
    rw[nE (by rw[size_flatK,hd's];exact hb1) (by omega)];have:=hflat d' hd's i j (by omega) hj;have e3:d'[i]! =k:=by rw[getElem!_pos d' i hi];rw[FW hi]at e2;simpa using e2
    rw[e3]at this;show VRel pl M y (flatK cellsOf sz d')[i*sz+j]!
    rw[this];exact k3 j y q2) (by rw[hw];exact nH) (by rw[hw];exact BM) (fun b hb hne=>by rw[hw];exact kJ hb hne)
  exact⟨r1,r2,ar _⟩
end
end Go.Ev
namespace Go.Ev
open Go
theorem yg(a b:Int):au (jj a b) 0=au a b:=by
 unfold jj;cases h:au a b with
 |true=>rfl
 |false=>cases h2:au b a<;>rfl
noncomputable def lI(l:List PSpan)(d:Int):Nat:=(l.takeWhile fun s=>au s.from_ d).length
theorem yf(l:List PSpan)(d:Int):lI l d≤l.length:=by
 induction l with
 |nil=>simp[lI]
 |cons a r ih=>grind[lI,List.takeWhile_cons]
def sx(l:List PSpan):Prop:=l.Pairwise fun a b=>a.from_≤b.from_
theorem uI{d:Int}:∀{l:List PSpan},sx l→∀k,k<l.length→(au (gD l k).from_ d=true↔k<lI l d)
 |[],_,k,h=>by simp_all
 | a::r,hs,k,h=>by
  obtain⟨h1,h2⟩:=jU.1 hs;unfold lI;rw[List.takeWhile_cons];cases q:au a.from_ d with
  | true=>
   simp only[if_true,cP];cases k with
   |zero=>grind[gD]
   |succ k=>
    have:=uI (d:=d) h2 k (by simp_all);rw[show gD (a::r) (k+1)=gD r k from rfl,this];grind[lI]
  |false=>
   simp only[gw,if_false,gp,pR,iff_false,Bool.not_eq_true];have hd:=aF q;grind[fI,jx]
noncomputable def Gm(l:List PSpan)(d:Int):Bool:=au (Int.ofNat (lI l d)) (Int.ofNat l.length)&&al (jj (gD l (lI l d)).from_ d) 0
theorem Ot{l:List PSpan}(h:l.Pairwise fun a b=>a.to<b.from_)(h2:∀s,s∈l→s.from_<s.to):sx l:=by
 induction l with
 |nil=>exact .nil
 |cons a r ih=>
  obtain⟨h3,h4⟩:=jU.1 h;refine jU.2 ⟨fun b hb=>?_,ih h4 fun s hs=>h2 s (e9 _ hs)⟩;grind
structure NrmS(l:List PSpan):Prop where
 gap:l.Pairwise fun a b=>a.to<b.from_
 ok:∀s,s∈l→0≤s.from_∧s.from_<s.to∧s.to≤1048577
theorem NrmS.sort{l:List PSpan}(h:NrmS l):sx l:=Ot h.gap fun s hs=>(h.ok s hs).2.1
theorem H9:∀{l:List PSpan}{b:Int},l.Pairwise (fun a b=>a.to<b.from_)→(∀s,s∈l→b≤s.from_∧s.from_<s.to∧s.to≤1048577)→b≤1048577→Int.ofNat l.length≤1048577-b
 |[],b,_,_,hb=>by simp_all
 |a::r,b,h,h2,hb=>by
  obtain⟨h3,h4⟩:=jU.1 h;have h5:=h2 a (eT ..);have:=H9 (l:=r) (b:=b+1) h4 (fun s hs=>by grind) (by omega);grind
theorem NrmS.len{l:List PSpan}(h:NrmS l):l.length≤1048577:=by
 have:=H9 (b:=0) h.gap h.ok (by omega);grind
noncomputable def gL(l:List PSpan)(d:Int):Bool:=Gm l d||(au 0 (Int.ofNat (lI l d))&&au d (gD l (lI l d-1)).to)
theorem Qv{l:List PSpan}(h:NrmS l){d:Int}(hd:d<0∨1048576<d):gL l d=false:=by
 have hs:=h.sort;have hi:=uI (d:=d) hs;have hc:=yf l d;unfold gL Gm;rcases hd with hd|hd
 ·have h0:lI l d=0:=by
   rcases Nat.eq_zero_or_pos (lI l d)with e|e
   ·omega
   ·have h1:=(hi 0 (by omega)).2 e;have:=an h1;grind[fI,cases NrmS]
  rw[h0];have e2:au 0 (Int.ofNat 0)=false:=by rfl
  rw[e2,wj,Bool.or_false];cases hl:au (Int.ofNat 0) (Int.ofNat l.length)with
  |false=>rfl
  | true=>
   have hlt:=an hl;simp only[aP]at hlt;have:=h.ok (gD l 0) (fI (by omega));have e3:al (jj (gD l 0).from_ d) 0=false:=by
    unfold jj;rw[jx (by omega),lX (by omega)];rfl
   simp_all
 ·have h0:lI l d=l.length:=by
   rcases fe (lI l d) l.length with e|e
   all_goals grind[fI,lX,cases NrmS]
  rw[h0,jx (by omega),wj,Bool.false_or];cases hl:au 0 (Int.ofNat l.length)with
  |false=>rfl
  |true=>
   have hlt:=an hl;simp only[aP]at hlt;have:=h.ok (gD l (l.length-1)) (fI (by omega));rw[jx (by omega)];rfl
theorem EX(a b:Int):CL a b=max a b:=by
 unfold CL;cases h:au a b with
 |true=>have:=an h;grind
 |false=>have:=aF h;grind
theorem zD(a b:Int):vV a b=min a b:=by
 unfold vV;cases h:au b a with
 |true=>have:=an h;grind
 |false=>have:=aF h;grind
noncomputable abbrev VT(s:PSpan):PSpan:=⟨CL s.from_ 0,vV s.to 1048577⟩
noncomputable abbrev XS(s:PSpan):Bool:=au (CL s.from_ 0) (vV s.to 1048577)
noncomputable def jk:List PSpan→List PSpan
 |[]=>[]
 |s::r=>match XS s with|true=>VT s::jk r|false=>jk r
theorem uM{s:PSpan}{r:List PSpan}(h:XS s=true):jk (s::r)=VT s::jk r:=by grind[jk]
theorem uN{s:PSpan}{r:List PSpan}(h:XS s=false):jk (s::r)=jk r:=by grind[jk]
theorem Dy:∀(l:List PSpan),(jk l).length≤l.length
 |[]=>by simp[jk]
 |s::r=>by
  have:=Dy r;cases h:XS s with
  |true=>grind[uM]
  |false=>grind[uN]
theorem A4:∀{l:List PSpan}{s:PSpan},s∈jk l→0≤s.from_∧s.from_<s.to∧s.to≤1048577
 | a::r,s,hs=>by
  cases h:XS a with
  |true=>
   rw[uM h]at hs;rcases fw.1 hs with e|e
   ·subst e;have h2:=an h;grind[EX,zD]
   ·exact A4 e
  |false=>rw[uN h]at hs;exact A4 hs
def memB(l:List PSpan)(d:Int):Bool:=l.any fun s=>decide (s.from_≤d∧d<s.to)
def Ea(d:Int):Bool:=decide (0≤d∧d<1048577)
theorem mE(d:Int):memB [] d=false:=rfl
theorem dw(a:PSpan)(l:List PSpan)(d:Int):memB (a::l) d=(decide (a.from_≤d∧d<a.to)||memB l d):=rfl
theorem zF(l r:List PSpan)(d:Int):memB (l++r) d=(memB l d||memB r d):=by simp[memB]
theorem gZ{l:List PSpan}{d:Int}:memB l d=true↔∃s,s∈l∧s.from_≤d∧d<s.to:=by simp[memB]
theorem Np{l r:List PSpan}(h:l.Perm r)(d:Int):memB l d=memB r d:=by
 rw[vU,gZ,gZ];grind
theorem Dv:∀(l:List PSpan)(d:Int),memB (jk l) d=(Ea d&&memB l d)
 |[],d=>by simp[jk,memB]
 | a::r,d=>by
  have ih:=Dv r d;have e:∀b:Bool,(b=decide (0≤d∧d<1048577∧a.from_≤d∧d<a.to))→(b||(Ea d&&memB r d))=(Ea d&&memB (a::r) d):=fun b hb=>by grind[dw,Ea]
  cases h:XS a with
  |true=>
   rw[uM h,dw,ih];refine e _ ?_;simp only[EX,zD];grind
  |false=>
   rw[uN h,ih];have h2:=aF h;simp only[EX,zD]at h2;grind
theorem NrmS.tail{a:PSpan}{r:List PSpan}(h:NrmS (a::r)):NrmS r:=⟨(jU.1 h.gap).2,fun s hs=>h.ok s (e9 _ hs)⟩
theorem NrmS.low{a x:PSpan}{r:List PSpan}(h:NrmS (a::r))(hx:x∈r):a.to<x.from_:=(jU.1 h.gap).1 x hx
theorem NrmS.head{a:PSpan}{r:List PSpan}(h:NrmS (a::r)):0≤a.from_∧a.from_<a.to∧a.to≤1048577:=h.ok a (eT ..)
theorem yY:NrmS []:=⟨.nil,fun s h=>by grind⟩
theorem rx{a:PSpan}{r:List PSpan}(h:NrmS (a::r)):memB (a::r) a.from_=true:=by grind[dw,cases NrmS]
theorem GW{a:PSpan}{r:List PSpan}(h:NrmS (a::r)){d:Int}(hd:memB (a::r) d=true):a.from_≤d:=by
 obtain⟨s,h1,h2,h3⟩:=gZ.1 hd;rcases fw.1 h1 with e|e
 ·simp_all
 ·have:=h.low e;grind[cases NrmS]
theorem QJ{a:PSpan}{r:List PSpan}(h:NrmS (a::r)):memB (a::r) a.to=false:=by
 cases q:memB (a::r) a.to with
 |false=>rfl
 |true=>
  obtain⟨s,h1,h2,h3⟩:=gZ.1 q;rcases fw.1 h1 with e|e
  ·simp_all
  ·have:=h.low e;omega
theorem GX{a:PSpan}{r:List PSpan}(h:NrmS (a::r))(d:Int):memB r d=(decide (a.to≤d)&&memB (a::r) d):=by
 rw[dw];by_cases h1:a.to≤d
 ·grind
 ·have:memB r d=false:=by
   cases q:memB r d with
   |false=>rfl
   |true=>
    obtain⟨s,h2,h3,h4⟩:=gZ.1 q;have:=h.low h2;omega
  grind
theorem zo:∀{r s:List PSpan},NrmS r→NrmS s→(∀d,memB r d=memB s d)→r=s
 |[],[],_,_,_=>rfl
 |[],b::s,_,hs,h=>by grind[rx,mE]
 |a::r,[],hr,_,h=>by grind[rx,mE]
 | a::r,b::s,hr,hs,h=>by
  have h1:b.from_≤a.from_:=GW hs (by grind[rx]);have h2:a.from_≤b.from_:=GW hr (by grind[rx]);have ha:=hr.head;have hb:=hs.head;have h3:¬a.to<b.to:=fun q=>by grind[dw,QJ]
  have h4:¬b.to<a.to:=fun q=>by grind[dw,QJ]
  have e:a=b:=by
   obtain⟨a1,a2⟩:=a;obtain⟨b1,b2⟩:=b;grind
  subst e;rw[zo hr.tail hs.tail fun d=>by rw[GX hr,GX hs,h]]
def wU(f:Int→Bool)(d:Int)(l:List PSpan):List PSpan:=match f d with
 |false=>l
 |true=>match l with
  |[]=>[⟨d,d+1⟩]
  |s::r=>if s.from_=d+1 then⟨d,s.to⟩::r else⟨d,d+1⟩::s::r
def wD(f:Int→Bool):Nat→List PSpan
 |0=>[]
 |k+1=>wU f (1048577-Int.ofNat (k+1)) (wD f k)
theorem Oi{f:Int→Bool}{d:Int}{l:List PSpan}(h0:0≤d)(h1:d+1≤1048577)(hl:NrmS l)(hf:∀s,s∈l→d+1≤s.from_):
  NrmS (wU f d l)∧(∀s,s∈wU f d l→d≤s.from_)∧∀e,memB (wU f d l) e=((decide (e=d)&&f e)||memB l e):=by
 unfold wU;cases hfd:f d with
 |false=>grind
 | true=>
  match l,hl,hf with
  |[],_,_=>
   refine⟨⟨by simp,fun s hs=>by grind⟩,fun s hs=>by simp_all,fun e=>?_⟩;simp only[dw,mE,Bool.or_false];grind
  | s::r,hl,hf=>
   have hs:=hl.head;have hs2:=hf s (eT ..);simp only[];by_cases q:s.from_=d+1
   ·rw[if_pos q];refine⟨⟨jU.2 ⟨fun x hx=>hl.low hx,hl.tail.gap⟩,fun x hx=>?_⟩,fun x hx=>?_,fun e=>?_⟩
    ·grind[cases NrmS]
    ·grind
    ·simp only[dw];grind
   ·rw[if_neg q];refine⟨⟨jU.2 ⟨fun x hx=>?_,hl.gap⟩,fun x hx=>?_⟩,fun x hx=>?_,fun e=>?_⟩
    ·have:=hf x hx;rcases fw.1 hx with e|e
     ·grind
     ·have:=hl.low e;grind
    ·rcases fw.1 hx with e|e
     ·grind
     ·exact hl.ok x e
    ·grind
    ·rw[dw];grind
theorem FH(f:Int→Bool):∀k,k≤1048577→NrmS (wD f k)∧(∀s,s∈wD f k→1048577-Int.ofNat k≤s.from_)∧∀e,memB (wD f k) e=(decide (1048577-Int.ofNat k≤e∧e<1048577)&&f e)
 |0,_=>by
  refine⟨yY,fun s h=>(by cases h),fun e=>?_⟩;have:decide (1048577-Int.ofNat 0≤e∧e<1048577)=false:=by simp_all
  rw[this];rfl
 |k+1,hk=>by
  obtain⟨h1,h2,h3⟩:=FH f k (by omega);simp only[aP]at *;have:=Oi (f:=f) (d:=1048577-((k+1:Nat):Int)) (l:=wD f k) (by omega) (by omega) h1 (fun s hs=>by grind);have h5:wD f (k+1)=wU f (1048577-((k+1:Nat):Int)) (wD f k):=by grind[wD]
  grind
theorem QV(f:Int→Bool):∃l:List PSpan,NrmS l∧∀d,memB l d=(Ea d&&f d):=by
 obtain⟨h1,_,h3⟩:=FH f 1048577 (ar _);exact⟨_,h1,fun d=>by simp_all[Ea]⟩
noncomputable def nf(f:Int→Bool):List PSpan:=Classical.choose (QV f)
theorem zt(f:Int→Bool):NrmS (nf f):=(Classical.choose_spec (QV f)).1
theorem I1(f:Int→Bool)(d:Int):memB (nf f) d=(Ea d&&f d):=(Classical.choose_spec (QV f)).2 d
theorem QY{f:Int→Bool}{r:List PSpan}(h:NrmS r)(hm:∀d,memB r d=(Ea d&&f d)):r=nf f:=zo h (zt f) fun d=>by grind[I1]
theorem QU{f g:Int→Bool}(h:∀d,Ea d=true→f d=g d):nf f=nf g:=QY (zt f) fun d=>by
 rw[I1];grind
theorem LK{l:List PSpan}(h:NrmS l):l=nf (memB l):=QY h fun d=>by
 cases q:memB l d with
 |false=>simp_all
 |true=>
  obtain⟨s,h1,h2,h3⟩:=gZ.1 q;have:=h.ok s h1;have:Ea d=true:=by unfold Ea;grind
  simp_all
theorem x8{α:Type}[Inhabited α]{l:List α}{n:Nat}(h:n<l.length):l.take (n+1)=l.take n++[gD l n]:=by grind[List.take_add_one,gD]
theorem yd{α:Type}[Inhabited α]{l:List α}{n:Nat}(h:n<l.length):l.drop n=gD l n::l.drop (n+1):=by grind[List.drop_eq_getElem_cons,gD]
theorem tg{α:Type}{l:List α}{n m:Nat}{x:α}(h:n≤m):(l.set m x).take n=l.take n:=by
 apply List.ext_getElem?;grind
theorem JU{α:Type}[Inhabited α]{l:List α}{i k:Nat}{x:α}(h:i<l.length):gD (l.set i x) k=if k=i then x else gD l k:=by
 unfold gD List.getD;grind
theorem sx.at{l:List PSpan}(h:sx l){i k:Nat}(hik:i≤k)(hk:k<l.length):(gD l i).from_≤(gD l k).from_:=by
 rcases fe i k with q|q
 ·have:=JP.1 h i k (by omega) hk q;grind[gD]
 grind
structure MergeI(l cur:List PSpan)(n i:Nat):Prop where
 len:cur.length=l.length
 le:n≤i
 il:i≤l.length
 pos:0<i→0<n
 rest:∀k,i≤k→k<l.length→gD cur k=gD l k
 gap:∀j k,j<k→k<n→(gD cur j).to<(gD cur k).from_
 ok:∀k,k<n→0≤(gD cur k).from_∧(gD cur k).from_<(gD cur k).to∧(gD cur k).to≤1048577
 last:0<n→∀k,i≤k→k<l.length→(gD cur (n-1)).from_≤(gD l k).from_
 mem:∀d,(memB (cur.take n) d||memB (l.drop i) d)=memB l d
theorem MergeI.start(l:List PSpan):MergeI l l 0 0:=⟨rfl,ar _,bH _,fun h=>absurd h (wv _),fun _ _ _=>rfl,fun _ _ _ h=>absurd h (pR _),fun _ h=>absurd h (pR _),fun h=>absurd h (wv _),fun d=>by simp[memB]⟩
theorem MergeI.copy{l cur:List PSpan}{n i:Nat}(h:MergeI l cur n i)(hi:i<l.length)(hs:sx l)(hok:∀k,k<l.length→0≤(gD l k).from_∧(gD l k).from_<(gD l k).to∧(gD l k).to≤1048577)
  (hn:n=0∨(gD cur (n-1)).to<(gD cur i).from_):MergeI l (cur.set n (gD cur i)) (n+1) (i+1):=by
 rw[h.rest i (ar _) hi]at hn ⊢;have hl:=h.le;have hcl:=h.len;have hg:∀k,gD (cur.set n (gD l i)) k=if k=n then gD l i else gD cur k:=fun k=>JU (by omega)
 refine⟨by simp_all,by omega,by omega,fun _=>by omega,fun k h1 h2=>?_,fun j k h1 h2=>?_,fun k h1=>?_,fun _ k h1 h2=>?_,fun d=>?_⟩
 ·grind[cases MergeI]
 ·rw[hg,hg,if_neg (by omega)];by_cases e:k=n
  ·rw[if_pos e];rcases hn with hn|hn
   ·omega
   ·by_cases e2:j=n-1
    ·simp_all
    ·have h3:=h.gap j (n-1) (by omega) (by omega);grind[cases MergeI]
  ·grind[cases MergeI]
 ·rw[hg];by_cases e:k=n
  ·simp_all
  ·grind[cases MergeI]
 ·rw[hg,if_pos (by omega)];exact hs.at (by omega) h2
 ·rw[x8 (by grind),hg,if_pos rfl,tg (ar _),zF,←h.mem d,yd hi,dw,dw,mE];grind
theorem MergeI.join{l cur:List PSpan}{n i:Nat}(h:MergeI l cur n i)(hi:i<l.length)(hs:sx l)(hok:∀k,k<l.length→0≤(gD l k).from_∧(gD l k).from_<(gD l k).to∧(gD l k).to≤1048577)
  (hn:0<n)(hle:(gD cur i).from_≤(gD cur (n-1)).to)(x:Int)(hx:x=CL (gD cur (n-1)).to (gD cur i).to):MergeI l (cur.set (n-1) ⟨(gD cur (n-1)).from_,x⟩) n (i+1):=by
 rw[h.rest i (ar _) hi]at hle;rw[h.rest i (ar _) hi,EX]at hx;have hl:=h.le;have hcl:=h.len;have hg:∀k,gD (cur.set (n-1) ⟨(gD cur (n-1)).from_,x⟩) k=if k=n-1 then⟨(gD cur (n-1)).from_,x⟩else gD cur k:=fun k=>JU (by omega)
 have h4:=h.ok (n-1) (by omega);have h5:=hok i hi;have h6:=h.last hn i (ar _) hi;refine⟨by simp_all,by omega,by omega,fun _=>hn,fun k h1 h2=>?_,fun j k h1 h2=>?_,fun k h1=>?_,fun _ k h1 h2=>?_,fun d=>?_⟩
 ·grind[cases MergeI]
 ·rw[hg,hg,if_neg (by omega)];by_cases e:k=n-1
  ·grind[cases MergeI]
  ·grind[cases MergeI]
 ·rw[hg];by_cases e:k=n-1
  ·grind
  ·grind[cases MergeI]
 ·grind[cases MergeI]
 ·obtain⟨m,rfl⟩:∃m,n=m+1:=⟨n-1,by omega⟩
  simp only[Nat.add_sub_cancel]at *;rw[x8 (by grind),hg,if_pos rfl,tg (ar _),zF,←h.mem d,yd hi,dw (gD l i),x8 (by omega),zF,dw,dw,mE,Bool.or_false,Bool.or_false];grind
theorem MergeI.nrm{l cur:List PSpan}{n i:Nat}(h:MergeI l cur n i):NrmS (cur.take n):=by
 have hl:=h.le;have hcl:=h.len;have hil:=h.il;have hlen:(cur.take n).length=n:=by grind
 have hg:∀k (hk:k<(cur.take n).length),(cur.take n)[k]=gD cur k:=fun k hk=>by rw[List.getElem_take];unfold gD List.getD;grind
 refine⟨?_,fun s hs=>?_⟩;all_goals grind[List.pairwise_iff_getElem,List.getElem_of_mem,cases MergeI]
theorem MergeI.done{l cur:List PSpan}{n i:Nat}(h:MergeI l cur n i)(hi:l.length≤i)(d:Int):memB (cur.take n) d=memB l d:=by rw[←h.mem d,B9 hi,mE,Bool.or_false]
theorem R8{l l':List PSpan}(hp:l'.Perm (jk l)):∀k,k<l'.length→0≤(gD l' k).from_∧(gD l' k).from_<(gD l' k).to∧(gD l' k).to≤1048577:=fun k hk=>A4 (hp.mem_iff.1 (fI hk))
noncomputable def fj(l:List PSpan):List PSpan:=nf (memB l)
theorem GK{l r:List PSpan}(h:NrmS r)(hm:∀d,memB r d=memB (jk l) d):r=fj l:=QY h fun d=>by grind[Dv]
theorem Ni{l:List PSpan}(h:jk l=[]):[]=fj l:=GK yY fun d=>by grind
end Go.Ev
namespace Go.Ev
open Go
theorem tQ{zs:List Int}(hs:zs.Pairwise fun a b=>a≤b):(am zs).Pairwise (fun a b=>a<b)∧∀z,z∈am zs↔z∈zs:=by
 generalize hd:zs.toArray=d;have hsz:d.size=zs.length:=by grind
 have hx:∀j (hj:j<zs.length),d[j]! =zs[j]:=fun j hj=>by grind
 have mono:∀i j,i≤j→j<zs.length→d[i]!≤d[j]!:=fun i j hij hj=>by
  rcases fe i j with q|q
  ·rw[hx i (by omega),hx j hj];exact JP.1 hs i j (by omega) hj q
  grind
 have key:∀m,m≤zs.length→(Lib.compactUpTo d m).Pairwise (fun a b=>a<b)∧(∀z,z∈Lib.compactUpTo d m→∃j,j<m∧z=d[j]!)∧∀j,j<m→d[j]!∈Lib.compactUpTo d m:=by
  intro m;induction m with
  |zero=>simp_all[Lib.compactUpTo]
  | succ m ih=>
   intro hm;obtain⟨h1,h2,h3⟩:=ih (by omega);rw[Lib.compactUpTo_succ];cases hk:Lib.keeps d m with
   | true=>
    simp only[if_true];have hk':m=0∨d[m]!≠d[m-1]!:=by grind[Lib.keeps]
    refine⟨List.pairwise_append.2 ⟨h1,by simp,fun a ha b hb=>?_⟩,fun z hz=>?_,fun j hj=>?_⟩
    ·obtain⟨j,hj,rfl⟩:=h2 a ha;have hb:b=d[m]!:=by simp_all
     subst hb;have e1:=mono j (m-1) (by omega) (by omega);have e2:=mono (m-1) m (by omega) (by omega);omega
    all_goals grind
   |false=>
    simp only[gw,if_false,dG];have hk':¬(m=0∨d[m]!≠d[m-1]!):=by grind[Lib.keeps]
    grind
 obtain⟨h1,h2,h3⟩:=key zs.length (ar _);have e:am zs=Lib.compactUpTo d zs.length:=by grind[am,Lib.compact]
 rw[e];refine⟨h1,fun z=>⟨fun hz=>?_,fun hz=>?_⟩⟩
 ·grind
 ·obtain⟨j,hj,rfl⟩:=FZ hz;simp_all
theorem NrmS.at{l:List PSpan}(h:NrmS l){j k:Nat}(hjk:j<k)(hk:k<l.length):(gD l j).to<(gD l k).from_:=by
 have:=JP.1 h.gap j k (by omega) hk hjk;grind[gD]
theorem NrmS.okAt{l:List PSpan}(h:NrmS l){k:Nat}(hk:k<l.length):0≤(gD l k).from_∧(gD l k).from_<(gD l k).to∧(gD l k).to≤1048577:=h.ok _ (fI hk)
theorem TN{l:List PSpan}{d:Int}:memB l d=true↔∃k,k<l.length∧(gD l k).from_≤d∧d<(gD l k).to:=by
 rw[gZ];constructor
 ·rintro⟨s,h1,h2⟩
  obtain⟨k,hk,e⟩:=FZ h1;have:gD l k=s:=by grind[gD]
  grind
 grind[fI]
theorem Dk {a b:Int}:al (jj a b) 0=true↔a=b:=by
 unfold jj;cases h:au a b with
 | true => have:=an h;constructor
           ·intro h;cases h
           omega
 |false=>
  have:=aF h;cases h2:au b a with
  | true => have:=an h2;constructor
            ·intro h;cases h
            omega
  |false=>have:=aF h2;exact⟨fun _=>by omega,fun _=>rfl⟩
theorem EJ{l:List PSpan}(h:NrmS l)(d:Int):gL l d=memB l d:=by
 have hi:=uI (d:=d) h.sort;have hc:=yf l d;rw[vU,TN];unfold gL Gm;simp only[tq,bx];constructor
 ·rintro(⟨h1,h2⟩|⟨h1,h2⟩)
  ·have h1:=an h1;simp only[aP]at h1;have h2:=Dk.1 h2;have:=h.okAt (k:=lI l d) (by omega);grind
  ·have h1:=an h1;have h2:=an h2;simp only[aP]at h1;have h3:=an ((hi (lI l d-1) (by omega)).2 (by omega));grind
 ·rintro⟨k,hk,h1,h2⟩
  by_cases e:(gD l k).from_=d
  ·left;have e1:¬k<lI l d:=fun q=>by have:=an ((hi k hk).2 q);omega
   have e2:¬lI l d<k:=fun q=>by
    have h3:=h.at q hk;have h4:=h.okAt (k:=lI l d) (by omega);grind[lX]
   have e3:lI l d=k:=by omega
   rw[e3];exact⟨lX (by simp_all),Dk.2 e⟩
  ·right;have e1:k<lI l d:=(hi k hk).1 (lX (by omega));have e2:¬k+1<lI l d:=fun q=>by
    have h3:=h.at (j:=k) (k:=k+1) (by omega) (by omega);have:=an ((hi (k+1) (by omega)).2 q);omega
   grind[lX]
def pU(l:List PSpan):List Int:=l.flatMap fun s=>[s.from_,s.to]
theorem DU(s:PSpan)(r:List PSpan):pU (s::r)=[s.from_,s.to]++pU r:=by simp[pU]
theorem kY:∀(l:List PSpan),(pU l).length=2*l.length
 |[]=>rfl
 |s::r=>by rw[DU];simp[kY r];omega
theorem Hx{l:List PSpan}{s:PSpan}(h:s∈l):s.from_∈pU l∧s.to∈pU l:=by
 unfold pU;grind
def dg(g:Int→Bool):List Int→List PSpan
 |[]=>[]
 | a::r=>match r with
  |[]=>[]
  |b::_=>match g a with
   |true=>⟨a,b⟩::dg g r
   |false=>dg g r
theorem nS(g:Int→Bool)(a b:Int)(r:List Int):dg g (a::b::r)=match g a with|true=>⟨a,b⟩::dg g (b::r)|false=>dg g (b::r):=by rw[dg]
def qn:Int→List Int→Int
 |a,[]=>a
 |_,b::r=>qn b r
theorem AX:∀{r:List Int}{a:Int},(a::r).Pairwise (fun a b=>a<b)→a≤qn a r∧∀z,z∈r→z≤qn a r
 |[],a,_=>⟨Int.le_refl _,fun z h=>by grind⟩
 |b::r,a,h=>by
  obtain⟨h1,h2⟩:=jU.1 h;have h3:=h1 b (eT ..);obtain⟨k1,k2⟩:=AX h2;grind[qn]
theorem zJ{g:Int→Bool}{C:List Int}(hg:∀x y,(∀z,z∈C→z≤x∨y≤z)→∀d,x≤d→d<y→g d=g x):
  ∀(r:List Int)(a:Int),(a::r).Pairwise (fun a b=>a<b)→(∀z,z∈C→z≤a∨z∈r)→∀d,memB (dg g (a::r)) d=(decide (a≤d∧d<qn a r)&&g d)
 |[],a,_,_,d=>by
  have:decide (a≤d∧d<qn a [])=false:=by grind[qn]
  rw[this];rfl
 | b::r,a,hp,hC,d=>by
  obtain⟨h1,h2⟩:=jU.1 hp;have hab:=h1 b (eT ..);obtain⟨hb2,h3⟩:=jU.1 h2;have hl:=(AX h2).1;have ih:=zJ hg r b h2 (fun z hz=>by grind) d;have hc:∀d,a≤d→d<b→g d=g a:=hg a b fun z hz=>by grind
  have e0:memB (dg g (a::b::r)) d=((g a&&decide (a≤d∧d<b))||memB (dg g (b::r)) d):=by
   rw[nS];cases g a with
   |true=>rw[dw,wx]
   |false=>simp_all
  rw[e0,ih,show qn a (b::r)=qn b r from rfl];grind
def iy(A:List PSpan):List Int:=am (bX (pU A))
theorem LP(A:List PSpan):(iy A).Pairwise (fun a b=>a<b)∧∀z,z∈iy A↔z∈pU A:=by
 obtain⟨h1,h2⟩:=tQ (oF (pU A));exact⟨h1,fun z=>(h2 z).trans (je (pU A)).mem_iff⟩
theorem zE{A l:List PSpan}(hl:∀s,s∈l→s∈A){x y:Int}(hz:∀z,z∈iy A→z≤x∨y≤z){d:Int}(h1:x≤d)(h2:d<y):memB l d=memB l x:=by
 have key:∀s,s∈l→((s.from_≤d∧d<s.to)↔(s.from_≤x∧x<s.to)):=fun s hs=>by
  obtain⟨k1,k2⟩:=Hx (hl s hs);grind[LP]
 rw[vU,gZ,gZ];grind
theorem M6{op:Bool→Bool→Bool}(h0:op false false=false)(A B:List PSpan)(d:Int):memB (dg (fun d=>op (memB A d) (memB B d)) (iy (A++B))) d=op (memB A d) (memB B d):=by
 obtain⟨h1,h2⟩:=LP (A++B);have out:∀(z1 z2:Int),(∀z,z∈iy (A++B)→z1≤z∧z≤z2)→¬(z1≤d∧d<z2)→op (memB A d) (memB B d)=false:=fun z1 z2 hz hd=>by
  have no:∀l:List PSpan,(∀s,s∈l→s∈A++B)→memB l d=false:=fun l hl=>by
   cases q:memB l d with
   |false=>rfl
   |true=>
    obtain⟨s,k1,k2,k3⟩:=gZ.1 q;obtain⟨k4,k5⟩:=Hx (hl s k1);grind
  simp_all
 cases hC:iy (A++B)with
 |nil=>
  rw[dg,mE];exact(out (d+1) d (fun z hz=>by grind) (by omega)).symm
 | cons a r=>
  rw[hC]at h1;have hl:=AX h1;have hp:=(jU.1 h1).1;rw[zJ (C:=iy (A++B)) (fun x y hz d h3 h4=>by
   show op (memB A d) (memB B d)=op (memB A x) (memB B x)
   rw[zE (A:=A++B) (fun s hs=>pd _ hs) hz h3 h4,zE (A:=A++B) (fun s hs=>pO _ hs) hz h3 h4]) r a h1 (fun z hz=>by
   grind) d]
  by_cases q:a≤d∧d<qn a r;all_goals grind
theorem AM(A:List PSpan):(iy A).length≤2*A.length:=by
 have:=xb (bX (pU A));have h2:=(je (pU A)).length_eq;grind[kY,iy]
theorem Ch{g:Int→Bool}{C:List Int}{x:Nat}(h1:1≤x)(h2:x<C.length):dg g (C.drop (x-1))=match g (gD C (x-1))with|true=>⟨gD C (x-1),gD C x⟩::dg g (C.drop (x+1-1))|false=>dg g (C.drop (x+1-1)):=by grind[yd,nS]
theorem kO{g:Int→Bool}{C:List Int}{x:Nat}(h1:1≤x)(h2:C.length≤x):dg g (C.drop (x-1))=[]:=by
 have:(C.drop (x-1)).length≤1:=by simp_all
 match C.drop (x-1),this with
 |[],_=>rfl
 |[_],_=>rfl
 |_::_::_,h=>simp_all
noncomputable def sq(op:Bool→Bool→Bool)(a b:List PSpan):List PSpan:=nf fun d=>op (memB a d) (memB b d)
theorem jE(l:List PSpan):NrmS (fj l):=zt _
theorem vE(l:List PSpan)(d:Int):memB (fj l) d=(Ea d&&memB l d):=I1 _ d
theorem Ov{op:Bool→Bool→Bool}(h0:op false false=false){a b A B:List PSpan}(hA:fj a=A)(hB:fj b=B):fj (dg (fun d=>op (gL A d) (gL B d)) (iy (A++B)))=sq op a b:=by
 have nA:NrmS A:=hA▸jE a;have nB:NrmS B:=hB▸jE b;have e:(fun d=>op (gL A d) (gL B d))=fun d=>op (memB A d) (memB B d):=funext fun d=>by grind[EJ]
 rw[e];unfold fj sq;refine QU fun d hd=>?_
 rw[M6 h0,←hA,←hB,vE,vE,hd,wx,wx]
end Go.Ev
namespace Go.Ev
open Go
section
variable{H:Type}{enc:TypeId×Value→H}{P:Program}{w:World}{base:Nat}{spare:Nat→Bool}{held:Bool}
inductive VL(M:dn):List AV→List Value→Prop
 |nil:VL M [] []
 |cons {x:AV} {v:Value} {xs:List AV} {vs:List Value} (h:VRel (fun _=>none) M x v) (t:VL M xs vs):VL M (x::xs) (v::vs)
theorem VL.append{M:dn}{xs ys:List AV}{a b:List Value}(h:VL M xs a)(k:VL M ys b):VL M (xs++ys) (a++b):=by
 induction h with
 |nil=>grind
 |cons h _ ih=>exact .cons h ih
theorem VL.at_{M:dn}{xs:List AV}{a:List Value}(h:VL M xs a):∀(j:Nat)(y:AV),xs[j]?=some y→∃v,a[j]?=some v∧VRel (fun _=>none) M y v:=by
 induction h with
 |nil=>simp_all
 |cons h _ ih=>grind
theorem VL.one{M:dn}{x:AV}{cs:List Value}(h:VL M [x] cs):∃v,cs=[v]∧VRel (fun _=>none) M x v:=by
 cases h with
 |cons h t=>cases t;simp_all
def Wt(P:Program)(t:TypeId)(d:DataW H):Prop:=∀m,m∈d.weights P t→m≤reachBytes
theorem qW{e:TypeId}{d:DataW H}{m:Nat}(hm:m∈d.weights P e):∀{l:List (DataW H)},d∈l→m∈DataW.weightsAll P e l
 |[],h=>by grind
 |a::r,h=>by
  unfold DataW.weightsAll;rcases fw.1 h with rfl|h
  ·simp_all
  ·exact pO _ (qW hm h)
theorem lr{t:TypeId}{d:DataW H}{m:Nat}(hm:m∈d.weights P t):∀{ts:List TypeId}{l:List (DataW H)}(i:Nat),ts[i]?=some t→l[i]?=some d→m∈DataW.weightsEach P ts l
 |[],_,i,h,_=>by simp_all
 |_::_,[],i,_,h=>by simp_all
 |u::ts,a::r,i,h1,h2=>by
  unfold DataW.weightsEach;cases i with
  |zero=>simp_all
  |succ i=>exact pO _ (lr hm i (by simp_all) (by simp_all))
def EB(P:Program):List Field→Nat→Nat→Bool
 |[],off,n=>Nat.beq off n
 |f::r,off,n=>Nat.beq f.offset off&&EB P r (off+P.cellsOf f.type) n
def VF(M:dn)(P:Program)(cs:List Value):List Field→List (List AV)→Prop
 |[],[]=>True
 |f::fs,xs::xss=>VL M xs ((cs.drop f.offset).take (P.cellsOf f.type))∧VF M P cs fs xss
 |_,_=>False
theorem VF.vl{M:dn}{cs:List Value}:∀{fs:List Field}{xss:List (List AV)}{off:Nat},EB P fs off cs.length=true→VF M P cs fs xss→VL M xss.flatten (cs.drop off)
 |[],[],off,h,_=>by
  have:=pc h;rw[this,List.drop_length];exact .nil
 |[],_::_,_,_,h=>h.elim
 |_::_,[],_,_,h=>h.elim
 |f::fs,xs::xss,off,h,k=>by
  unfold EB at h;rw[bx]at h;have ho:=pc h.1;have h1:=k.1;rw[ho]at h1;have h2:=VF.vl h.2 k.2;have e:cs.drop off=(cs.drop off).take (P.cellsOf f.type)++cs.drop (off+P.cellsOf f.type):=by grind[List.drop_drop,List.take_append_drop]
  rw[List.flatten_cons,e];exact h1.append h2
def TF(enc:TypeId×Value→H)(P:Program)(w:World)(base:Nat)(spare:Nat→Bool)(held:Bool)(n:Nat)(cs:List Value):List Field→Prop
 |[]=>True
 |f::fs=>(∃d p,DataW.trod enc P w base spare held n f.type ((cs.drop f.offset).take (P.cellsOf f.type))=some (d,p)∧Wt P f.type d)∧TF enc P w base spare held n cs fs
theorem V5{n:Nat}{cs:List Value}:∀(fs:List Field),(∀(i:Nat)(f:Field),fs[i]?=some f→∃d p,DataW.trod enc P w base spare held n f.type ((cs.drop f.offset).take (P.cellsOf f.type))=some (d,p)∧Wt P f.type d)→TF enc P w base spare held n cs fs
 |[],_=>trivial
 |f::fs,h=>⟨h 0 f rfl,V5 fs fun i g hg=>h (i+1) g (by simp_all)⟩
theorem iH{t:TypeId}{fs:Array Field}{fuel:Nat}{cs:List Value}{d:DataW H}{p:List MemPlace}(hu:P.underlying t=some (.struct fs))(hc:EB P fs.toList 0 (P.cellsOf t)=true)
  (h:DataW.trod enc P w base spare held fuel t cs=some (d,p))(hw:Wt P t d):
  ∃n,fuel=n+1∧TF enc P w base spare held n cs fs.toList∧∀xss,VF (ca w) P cs fs.toList xss→VL (ca w) xss.flatten cs:=by
 obtain⟨xs,n,rfl,h1,h2,h3,h4⟩:=DataW.trod_struct hu h;simp only[tY]at h1;obtain⟨rfl,_⟩:=h1;refine⟨n,rfl,V5 _ fun i f hf=>?_,fun xss hx=>?_⟩
 ·have hf':fs[i]?=some f:=by simp_all
  have hi:i<xs.length:=by grind
  have e:=h4 i f hf';rw[lp hi]at e;refine⟨xs[i].1,xs[i].2,e,fun m hm=>hw m ?_⟩;unfold DataW.weights;rw[hu];exact lr hm i (by simp_all) (by grind)
 ·have:=VF.vl (off:=0) (by simp_all) hx;simp_all
theorem gh{t:TypeId}{fuel:Nat}{cs:List Value}{d:DataW H}{p:List MemPlace}(hu:P.underlying t=some (.int .i64))(h:DataW.trod enc P w base spare held fuel t cs=some (d,p)):∃x,VL (ca w) [.int .i64 x] cs:=by
 obtain⟨x,rfl,_⟩:=DataW.trod_int hu h;exact⟨x,.cons (.int _ _) .nil⟩
theorem np{t:TypeId}{fuel:Nat}{cs:List Value}{d:DataW H}{p:List MemPlace}(hu:P.underlying t=some .string)(h:DataW.trod enc P w base spare held fuel t cs=some (d,p)):∃s,VL (ca w) [.str s] cs:=by
 obtain⟨⟨⟨s⟩⟩,rfl,_⟩:=DataW.trod_string hu h;exact⟨s,.cons (.str _) .nil⟩
theorem Lj{α:Type}{Q:Nat→α→Prop}:∀(n:Nat),(∀i,i<n→∃x,Q i x)→∃l:List α,l.length=n∧∀i x,l[i]?=some x→Q i x
 |0,_=>⟨[],rfl,fun i x h=>by simp_all⟩
 |n+1,h=>by
  obtain⟨l,h1,h2⟩:=Lj n fun i hi=>h i (by omega)
  obtain⟨y,hy⟩:=h n (by omega);refine⟨l++[y],by simp_all,fun i x hx=>?_⟩;grind
theorem Zg{x:AV}(h:x.cells.all cH=true):Sc x:=fun y hy=>nK.1 h y hy
theorem Ih{α:Type}(el:α→AV)(fit:α→Prop){t e:TypeId}{fuel:Nat}{cs:List Value}{d:DataW H}{p:List MemPlace}(hu:P.underlying t=some (.slice e))(hsz:Nat.blt 0 (P.cellsOf e)=true)(hby:Nat.blt 0 (P.bytesOf e)=true)
  (hel:∀x,(el x).cells.length=P.cellsOf e)(hsc:∀x,(el x).cells.all cH=true)(htop:∀x,(el x).top=0)
  (hrec:∀m,m<fuel→∀cs d p,DataW.trod enc P w base spare held m e cs=some (d,p)→Wt P e d→∃x,fit x∧VL (ca w) (el x).cells cs)
  (h:DataW.trod enc P w base spare held fuel t cs=some (d,p))(hw:Wt P t d):
  ∃l:List α,l.length<2^47∧(∀x,x∈l→fit x)∧VL (ca w) [.ls (l.map el)] cs:=by
 rw[dh]at hsz hby;simp only[decide_eq_true_eq]at hsz hby;rcases DataW.trod_slice hu h with⟨rfl,_⟩|⟨a,len,cap,elems,rest,n,rfl,rfl,h1,h2,h3,h4,h5,h6,_,_⟩
 ·exact⟨[],Nat.two_pow_pos 47,fun x h=>absurd h (List.not_mem_nil),.cons .lsn .nil⟩
 ·simp only[tY]at h1;obtain⟨rfl,_⟩:=h1;have hwl:len<2^47:=by
   have:=hw ((elems.length+rest.length)*P.bytesOf e) (by grind[DataW.weights]);have h7:elems.length≤(elems.length+rest.length)*P.bytesOf e:=bR (Nat.le_add_right _ _) (Nat.le_mul_of_pos_right _ hby);have:elems.length≤reachBytes:=bR h7 this;rw[h5]at this;exact nJ this (by decide)
  have el0:∀i,i<len→∃x,fit x∧∃cs:List Value,cs.length=P.cellsOf e∧(∀j,j<P.cellsOf e→w.cell? ((a.add (i*P.cellsOf e)).add j)=cs[j]?)∧VL (ca w) (el x).cells cs:=by
   intro i hi;have k5:=h6 i hi;have hi':i<elems.length:=by omega
   rw[lp hi']at k5;simp only[Option.bind_eq_some_iff]at k5;obtain⟨cs,c1,c2⟩:=k5;obtain⟨z1,z2⟩:=Da c1;obtain⟨x,f1,f2⟩:=hrec n (by omega) cs elems[i].1 elems[i].2 c2 (fun m hm=>hw m (by
    unfold DataW.weights;rw[hu];exact e9 _ (pd _ (qW hm (ka.2 ⟨elems[i],Do hi',rfl⟩)))))
   grind
  obtain⟨l,q1,q2⟩:=Lj len el0;refine⟨l,by omega,fun x hx=>?_,.cons ?_ .nil⟩
  ·obtain⟨i,hi⟩:=FV.1 hx;grind
  ·have q1':(l.map el).length=len:=by simp_all
   generalize hys:l.map el=ys at *;have q3:∀i y,ys[i]?=some y→∃cs:List Value,cs.length=P.cellsOf e∧(∀j,j<P.cellsOf e→w.cell? ((a.add (i*P.cellsOf e)).add j)=cs[j]?)∧VL (ca w) y.cells cs:=by grind
   have q4:∀y,y∈ys→y.cells.length=P.cellsOf e∧Sc y:=by grind[Zg]
   have q5:ax ys=0:=by grind[aX]
   have addadd:∀i j:Nat,a.spot=none→(a.add i).add j=⟨a.block,a.off+i+j,none⟩:=by
    intro i j hs;obtain⟨blk,off,spot⟩:=a;grind[Addr.add]
   have spot:ys≠[]→a.spot=none:=by
    intro hne;obtain⟨x,hx⟩:∃x,ys[0]?=some x:=by
     cases ys with
     |nil=>simp_all
     |cons x r=>exact⟨x,rfl⟩
    grind[rm,Addr.add]
   have cell:∀(i j:Nat)(x:AV),ys[i]?=some x→j<P.cellsOf e→∃c v,ca w a.block=some c∧c[a.off+i*P.cellsOf e+j]?=some v∧∀y,x.cells[j]?=some y→VRel (fun _=>none) (ca w) y v:=by
    intro i j x hx hj;obtain⟨cs,c1,c2,c3⟩:=q3 i x hx;have:=c2 j hj;rw[lp (by omega),addadd _ _ (spot (by grind))]at this;obtain⟨_,c,m1,m2⟩:=rm this;refine⟨c,_,m1,m2,fun y hy=>?_⟩;obtain⟨v,g1,g2⟩:=c3.at_ j y hy;simp_all
   refine .lsp ?_ q5;by_cases hne:ys=[]
   ·subst hne;simp at q1';subst q1';exact .ps (sz:=P.cellsOf e) (c:=#[]) (by simp) (fun h=>by grind) (fun h=>absurd rfl h) (fun x h=>by simp_all) (fun i x j y h=>by simp_all)
   ·have hlen:0<ys.length:=pT.2 hne;obtain⟨x0,hx0⟩:∃x,ys[ys.length-1]?=some x:=⟨ys[ys.length-1],by simp⟩
    obtain⟨c,v0,m1,m2,_⟩:=cell (ys.length-1) (P.cellsOf e-1) x0 hx0 (by omega);have hc:=(ww.1 m2).1;have hfit:a.off+ys.length*P.cellsOf e≤c.size:=by
     have h1:(ys.length-1)*P.cellsOf e+P.cellsOf e=ys.length*P.cellsOf e:=by rw[←qZ];grind
     omega
    have:=VRel.ps (pl:=fun _=>none) (M:=ca w) (xs:=ys) (tight:=false) (a:=a) (cap:=cap) (sz:=P.cellsOf e) (c:=c) (by omega) (fun h=>by grind) (fun _=>⟨spot hne,m1,hfit,hsz⟩) q4
     (fun i x j y hx hy=>by
      obtain⟨r1,_⟩:=q4 x (bi hx);have hj:j<P.cellsOf e:=by grind
      obtain⟨c',v,n1,n2,n3⟩:=cell i j x hx hj;simp_all)
    simp_all
theorem kT{α:Type}(el:α→AV)(fit:α→Prop){t e:TypeId}{fuel:Nat}{cs:List Value}{d:DataW H}{p:List MemPlace}(hu:P.underlying t=some (.slice e))(hsz:Nat.blt 0 (P.cellsOf e)=true)(hby:Nat.blt 0 (P.bytesOf e)=true)
  (hel:∀x,(el x).cells.length=P.cellsOf e)(hsc:∀x,(el x).cells.all cH=true)(htop:∀x,(el x).top=0)
  (hrec:∀m,m<fuel→∀cs d p,DataW.trod enc P w base spare held m e cs=some (d,p)→Wt P e d→∃x,fit x∧VL (ca w) (el x).cells cs)
  (h:DataW.trod enc P w base spare held fuel t cs=some (d,p))(hw:Wt P t d):
  ∃l:List α,l.length<2^60∧(∀x,x∈l→fit x)∧VL (ca w) [.ls (l.map el)] cs:=by
 have⟨l,h1,h2⟩:=Ih el fit hu hsz hby hel hsc htop hrec h hw;grind
end
end Go.Ev
namespace Go.Ev
open Go
structure PPair where
 a:Int
 b:Int
deriving Inhabited,DecidableEq
structure PRef where
 act:Int
 item:Int
deriving Inhabited,DecidableEq
def nY(u:TUnit):List PWord:=u.head++u.words
mutual
def m6:TUnit→List PWord
 |⟨_,_,_,_,_,h,w,ks⟩=>(h++w)++kh ks
def kh:List TUnit→List PWord
 |[]=>[]
 |k::r=>m6 k++kh r
end
theorem MJ(u:TUnit):m6 u=nY u++kh u.kids:=by obtain⟨a,b,c,d,e,h,w,ks⟩:=u;rw[m6];rfl
theorem Dm:kh []=[]:=by rw[kh]
theorem tX(k:TUnit)(r:List TUnit):kh (k::r)=m6 k++kh r:=by rw[kh]
theorem re{k:Int}:∀{m:List (Int×Int)},gO k m=none→¬k∈m.map (·.1)
 |[],_=>by simp
 | (i,x)::r,h=>by
  simp only[gO]at h;cases e:al k i with
  |true=>grind
  |false=>
   rw[e]at h;have:=re h;grind[Hz]
section
variable{u w':TUnit}{ws:List PWord}{w:PWord}{r:List PWord}{ks:List TUnit}{m x:List (Int×Int)}{c B:Int}
end
theorem VRel.ls0{pl:Pl}{M:dn}{x:Value}(h:VRel pl M (.ls []) x):VRel pl M .nils x∨VRel pl M (.ps [] false) x:=by
 cases h with
 |lsn=>exact .inl .nils
 |lsp h _=>simp_all
theorem E7{P:Program}{G:eg}{f:FuncId}{a b c:List AV}{h:AHeap}{Ψ:AV→AHeap→Prop}(hs:∀pl M vs,VRels pl M c vs→VRels pl M a vs∨VRels pl M b vs)(h1:aL P G f a h Ψ)(h2:aL P G f b h Ψ):aL P G f c h Ψ:=fun pl M w vs hg hr hv=>(hs pl M vs hv).elim (h1 pl M w vs hg hr) (h2 pl M w vs hg hr)
theorem VRels.first{pl:Pl}{M:dn}{x y z:AV}{r:List AV}{vs:Array Value}(h:VRels pl M (z::r) vs)(hs:∀v,VRel pl M z v→VRel pl M x v∨VRel pl M y v):VRels pl M (x::r) vs∨VRels pl M (y::r) vs:=by
 obtain⟨h1,h2⟩:=h;have lift:∀u,VRel pl M u (vs.getD 0 undef)→VRels pl M (u::r) vs:=fun u hu=>⟨h1,fun j y hj=>by
  cases j with
  |zero=>grind
  |succ j=>simp_all⟩
 exact(hs _ (h2 0 z rfl)).imp (lift x) (lift y)
end Go.Ev
namespace Go.Ev
open Go
theorem aN{n b m:Nat}(h1:n≤m)(h2:m≤2^40)(h3:m*b≤2^40):small n b=true:=by
 unfold small;have h4:n*b≤m*b:=ee b h1;grind[Nat.ble_eq_true_of_le]
def Yg(d:Int):List Int→List Int
 |[]=>[d]
 |x::r=>bif au x d then x::Yg d r else bif al x d then x::r else d::x::r
def gC(ws:List PWord)(l:List Int):List Int:=ws.foldl (fun l w=>Yg w.act l) l
end Go.Ev
namespace Go.Ev
open Go
def Tq{α:Type}:Result α→World
 | .ok _ w=>w
 | .halt _ w=>w
def gW:GStep→World
 | .go _ w _=>w
 | .comm _ _ _ _ w _=>w
 | .spawn _ _ w _=>w
 | .count _ w _=>w
 | .timer _ _ w _=>w
 | .alone _ _ w _=>w
 | .newcoro _ _ _ w _=>w
 | .coroswitch _ _ _ w _=>w
 | .collect _ w _=>w
 | .watch _ w _=>w
 | .ended _ w _=>w
theorem lY(es:Array Event)(g:GStep):gW (GStep.after es g)=gW g:=by cases g<;>rfl
theorem JD{α:Type}:∀(q:Ask α)(w:World),w.drawn≤(w.ask q).2.drawn
 | .done a,w=>ar _
 | .ask what range k,w=>by
  rw[World.ask];split
  ·exact JD (k 0) w
  ·exact bR (nO _) (JD _ {w with drawn:=w.drawn+1})
theorem Pq(w:World)(c:Sys):w.drawn≤(w.sys c).2.drawn:=by
 unfold World.sys;have h:=JD (Kernel.perform c w.os) w;grind
theorem xo{p:Program}{w w':World}{at_:Addr}{u:TypeId}{k:Addr}{v:Value}{b:Bool}{l:List Addr}(h:w.viewStore p at_ u k v b=.ok (w',l)):w'.drawn=w.drawn:=by
 unfold World.viewStore at h;simp only[bind,Except.bind,pure,Except.pure]at h
 repeat' split at h
 all_goals first|cases h;done|(injection h with h;injection h with h1 h2;rw[←h1])
theorem An{p:Program}{w w':World}{a:Addr}{v:Value}{b:Bool}{l:List Addr}(h:w.farStore p a v b=.ok (w',l)):w'.drawn=w.drawn:=by
 unfold World.farStore at h
 repeat' split at h
 all_goals first|cases h;done|grind[xo]
theorem Ef(w:World)(a:Addr)(n:Nat):(w.freeze a n).drawn=w.drawn:=by unfold World.freeze;grind
theorem Po(p:Program){α:Type}(s:Sem α):∀(w:World),w.drawn≤(Tq (s.run p w)).drawn:=by
 induction s with
 |pure a=>exact fun w=>ar _
 |load m a k ih=>
  intro w;simp only[Sem.run]
  repeat' split
  all_goals first|exact ih _ _|exact ar _
 | store m a v k ih=>
  intro w;cases v
  all_goals simp only[Sem.run]
  all_goals first
   |exact ar _
   |((repeat' split);all_goals first|exact ar _|exact ih (w.setCell _ _)|(rename_i e;refine bR ?_ (ih _);rw[An e];exact ar _))
 |new o k ih=>grind[Sem.run]
 |shape r k ih=>grind[Sem.run]
 |freeze a n k ih=>intro w;simp only[Sem.run];refine bR ?_ (ih _);simp_all[Ef]
 |frozen a k ih=>grind[Sem.run]
 |getObj r k ih=>
  intro w;simp only[Sem.run]
  repeat' split
  all_goals first|exact ih _ _|exact ar _
 |setObj r o k ih=>
  intro w;simp only[Sem.run]
  repeat' split
  all_goals first|exact ih {w with heap:=w.heap.setIfInBounds r o}|exact ar _
 |choose q k ih=>
  intro w;simp only[Sem.run];grind
 |sys c k ih=>grind[Sem.run,Pq]
 |program k ih=>grind[Sem.run]
 |mark m k ih=>grind[Sem.run]
 |halt h=>exact fun w=>ar _
theorem cD{p:Program}{α:Type}{s:Sem α}{w:World}{r:Result α}(h:s.run p w=r):w.drawn≤(Tq r).drawn:=h▸Po p s w
theorem TK{p:Program}{α:Type}{s:Sem α}{w:World}{es es':Array Event}{r:Result α}(h:s.runT p w es=(r,es')):w.drawn≤(Tq r).drawn:=by
 have:=Sem.runT_fst p s w es;rw[h]at this;exact cD this.symm
theorem Jg(w:World)(fd:Nat)(text:ByteArray)(o:Outcome):w.drawn≤(gW (endWith w fd text o)).drawn:=by
 unfold endWith;simp only[];have h:=Pq w (.write fd text);split;all_goals (rename_i e;rw[e]at h)
 all_goals repeat' split
 all_goals exact h
theorem xj(fr:Frame)(m:String)(w:World):w.drawn≤(gW (endThrow fr m w)).drawn:=ar _
theorem qE(p:Program)(fr:Frame)(v:Value)(w:World):w.drawn≤(gW (endPrinting p fr v w)).drawn:=by
 unfold endPrinting;simp only[]
 repeat' split
 all_goals exact ar _
theorem xk(p:Program)(fr:Frame)(cs:List Frame)(d:Option Dying)(m:String)(w:World):w.drawn≤(gW (endFatal p fr cs d m w)).drawn:=by
 unfold endFatal;simp only[];split;all_goals (rename_i e;exact cD e)
theorem IK(p:Program)(fr:Frame)(d:Dying)(f:Fatal)(w:World):w.drawn≤(gW (writeOn p fr d f w)).drawn:=by
 unfold writeOn;split
 ·exact ar _
 ·simp only[];split;all_goals (rename_i e;exact TK e)
theorem Xc(p:Program)(fr:Frame)(d:Dying)(w:World):w.drawn≤(gW (die p fr d w)).drawn:=by
 unfold die;split
 ·grind[IK]
 ·split
  ·split
   ·exact ar _
   grind[Jg]
  ·simp only[];split
   ·exact ar _
   ·split;all_goals (rename_i e;exact cD e)
   ·rw[lY];split;all_goals first|(rename_i e;exact cD ((Sem.runT_fst ..).symm.trans e))|skip
    ·rename_i e;exact bR (cD ((Sem.runT_fst ..).symm.trans e)) (qE ..)
    ·exact ar _
   ·exact ar _
theorem qG(p:Program)(main:Bool)(fr:Frame)(cs:List Frame)(d:Option Dying)(v:Value)(w:World):w.drawn≤(gW (doReturn p main fr cs d v w)).drawn:=by
 unfold doReturn
 repeat' split
 all_goals exact ar _
theorem sP{c:Prop}[Decidable c]{a b:GStep}{n:Nat}(h1:n≤(gW a).drawn)(h2:n≤(gW b).drawn):n≤(gW (if c then a else b)).drawn:=by grind
theorem xH(p:Program)(fr:Frame)(cs:List Frame)(dy:Option Dying)(d:Deferred)(w:World):w.drawn≤(gW (callDeferred p fr cs dy d w)).drawn:=by
 unfold callDeferred;refine sP ?_ ?_
 ·exact ar _
 ·simp only[];rw[lY];split;all_goals (rename_i e;have h:=cD ((Sem.runT_fst ..).symm.trans e))
  all_goals first|exact h|exact bR h (xk ..)|((repeat' split)<;>exact h)
theorem MC(p:Program)(main:Bool)(fr:Frame)(cs:List Frame)(dy:Option Dying)(w:World):w.drawn≤(gW (unwind p main fr cs dy w)).drawn:=by
 unfold unwind;split
 ·simp only[];rw[lY];split;all_goals (rename_i e;exact cD ((Sem.runT_fst ..).symm.trans e))
 ·grind[xH]
 ·split
  ·exact ar _
  ·split
   ·exact ar _
   ·split
    ·exact ar _
    ·split
     ·split
      ·exact ar _
      ·split;all_goals (rename_i e;exact cD e)
     ·split
      ·grind[qE]
      ·exact ar _
  ·split
   ·grind[qG]
   ·simp only[];rw[lY];split;all_goals (rename_i e;have h:=cD ((Sem.runT_fst ..).symm.trans e))
    all_goals first|exact h|exact bR h (qG ..)
theorem Rr(p:Program)(fr:Frame)(cs:List Frame)(dy:Option Dying)(g:Nat)(w:World):w.drawn≤(gW (early p fr cs dy g w)).drawn:=by
 unfold early;simp only[]
 repeat' split
 all_goals first|exact ar _|(rename_i e;exact cD e)|(rename_i e _;exact cD e)|(rename_i e _ _;exact cD e)|(rename_i e _ _ _ _;exact cD e)
theorem uT(p:Program)(listen:Bool)(fr:Frame)(cs:List Frame)(dy:Option Dying)(s:Sem Next)(w:World):w.drawn≤(gW (stepG.apply p listen fr cs dy s w)).drawn:=by
 unfold stepG.apply;simp only[];rw[lY];have h0:w.drawn≤(Tq (if listen=true then Sem.runT p s w #[]else(Sem.run p s w,#[])).fst).drawn:=by
  cases listen
  ·grind[Po]
  ·exact cD (Sem.runT_fst ..).symm
 generalize (if listen=true then Sem.runT p s w #[]else(Sem.run p s w,#[])).fst=r at h0 ⊢;split;all_goals first|exact h0|exact bR h0 (xk ..)|exact bR h0 (Rr ..)|exact bR h0 (xj ..)|skip
 all_goals repeat' split
 all_goals first|exact h0|exact bR h0 (xj ..)|skip
theorem Tn(p:Program)(listen:Bool)(fr:Frame)(cs:List Frame)(dy:Option Dying)(w:World):w.drawn≤(gW (stepG.oper p listen fr cs dy w)).drawn:=by
 unfold stepG.oper;split
 ·exact ar _
 ·split;all_goals exact uT ..
theorem UB(p:Program)(main listen:Bool)(fr:Frame)(cs:List Frame)(dy:Option Dying)(w:World):w.drawn≤(gW (stepG.exec p main listen fr cs dy w)).drawn:=by
 have lv:∀(l:Nat)(jump:Option Code),w.drawn≤(gW (GStep.after (seen p fr.fn ((Instr.endRound l jump).runT p w #[]).snd) (match((Instr.endRound l jump).runT p w #[]).fst with| .ok v w=>doReturn p main fr cs dy v w| .halt _ w=>.ended (.stuck "range over a function: no such loop" (fr.pos p)) w))).drawn :=by
  intro l jump;rw[lY];have h0:=cD (Sem.runT_fst p (Instr.endRound l jump) w #[]).symm;split;all_goals (rename_i e;rw[e]at h0)
  ·exact bR h0 (qG ..)
  ·exact h0
 unfold stepG.exec;simp only[];split;all_goals first|exact ar _|exact uT .. |skip
 ·split
  ·exact sP (ar _) (ar _)
  grind
 ·split
  ·exact sP (ar _) (ar _)
  grind
 ·split<;>exact ar _
 ·rename_i id k _;cases exitTo id k with
  |none=>simp only[Option.elim];split;exact sP (ar _) (ar _);grind
  |some k'=>exact ar _
 ·rename_i id k _;cases gotoIn id k with
  |none=>simp only[Option.elim];split;exact sP (ar _) (ar _);grind
  |some k'=>exact ar _
 ·rw[lY];split
  ·rename_i e;exact bR (cD ((Sem.runT_fst ..).symm.trans e)) (uT ..)
  ·rename_i e;exact cD ((Sem.runT_fst ..).symm.trans e)
 ·rw[lY];split<;>rename_i e<;>exact cD ((Sem.runT_fst ..).symm.trans e)
 ·rename_i row _ _ _;cases Extern.next row with
  |none=>exact ar _
  |some e=>grind[uT]
 ·refine sP (ar _) ?_;split<;>rename_i e<;>exact cD e
 ·exact sP (Tn ..) (ar _)
theorem Pj(p:Program)(main listen:Bool)(g:Goroutine)(w:World):w.drawn≤(gW (stepG p main g w listen)).drawn:=by
 unfold stepG;grind[Xc,UB,MC]
def sD(n:Nat):Stepped→Prop
 | .next m=>n≤m.world.drawn
 | .ended _ _=>True
theorem sD.trans{n k:Nat}{s:Stepped}(h:n≤k)(g:sD k s):sD n s:=by
 cases s with
 |next m=>exact bR h g
 |ended o w=>trivial
theorem Qr{c:Prop}[Decidable c]{a b:Stepped}{n:Nat}(h1:sD n a)(h2:sD n b):sD n (if c then a else b):=by grind
theorem Lx(p:Program)(gs:Array Goroutine)(rest:Rest)(w:World):sD w.drawn (look p gs rest w):=by
 unfold look;simp only[];split
 ·refine Qr trivial ?_;split
  ·trivial
  ·split<;>rename_i e<;>first|exact cD e|trivial
 ·trivial
theorem xn{rest:Rest}{cases:Array CommCase}{w w':World}(h:waitingAt rest cases w=some w'):w'.drawn=w.drawn:=by
 unfold waitingAt at h
 repeat' split at h
 all_goals first|(cases h;done)|(cases h;rfl)
theorem Ek{c:Prop}[Decidable c]{a b:Stepped×Array MemOp}{n:Nat}(h1:sD n a.1)(h2:sD n b.1):sD n (if c then a else b).1:=by grind
theorem AR(p:Program)(rest:Rest)(gs:Array Goroutine)(i:Nat)(g:Goroutine)(cs:Array CommCase)(bl:Bool)(sh:CommShape)(w:World):sD w.drawn (communicate p rest gs i g cs bl sh w).1:=by
 unfold communicate;simp only[];refine Ek trivial (Ek (Ek ?_ (ar _)) ?_)
 ·split
  ·rename_i e;exact tU (xn e).symm
  ·trivial
 ·split
  ·trivial
  ·rename_i w1 e;have h:w.drawn≤w1.drawn:=cD e;clear e;split
   ·split
    ·rename_i e;exact bR h (cD e)
    ·trivial
   ·exact h
   ·exact h
   ·split
    ·exact h
    ·split
     ·rename_i e;exact bR h (cD e)
     ·trivial
   ·exact h
   ·exact h
   ·trivial
theorem Pi(p:Program)(m:Machine)(k:Nat):sD m.world.drawn (serve p m k):=by
 unfold serve;split
 ·trivial
 ·exact ar _
 ·simp only[];split
  ·trivial
  ·exact ar _
theorem Bm{m m':Machine}{op:TimerOp}{v:Value}(h:timerOp m op=.ok (v,m')):m'.world.drawn=m.world.drawn:=by
 have rt:∀(m:Machine)(k:Nat)(t:Timer)(a b:Nat),(retime m k t a b).2.world.drawn=m.world.drawn:=by
  intro m k t a b;unfold retime drain;grind
 cases op with
 |new t=>
  simp only[timerOp]at h
  repeat' split at h
  all_goals first|(cases h;done)|(cases h;rfl)
 |stop var=>
  simp only[timerOp,timerOp.named]at h;grind
 | reset var a b=>
  simp only[timerOp,timerOp.named,timerOp.opened]at h;split at h
  ·rename_i e;have e2:∀m2:Machine,(if waitedFor m var=true then match Kernel.withPoller m.world.os with| .ok os=>some {m with world:={m.world with os}}| .error _=>none else some m)=some m2→m2.world.drawn=m.world.drawn:=by
    intro m2 e
    repeat' split at e
    all_goals first|(cases e;done)|(cases e;rfl)
   grind
  ·grind
 |deadline a b c d=>simp only[timerOp]at h;cases h;rfl
theorem TJ(p:Program)(m:Machine)(i:Nat)(b:Bool):sD m.world.drawn (runT p m i b).1:=by
 unfold runT;simp only[];have h:=Pj p (i==0) b (m.gs.swapAt! i {(default:Goroutine)with status:=.finished}).1 m.world;generalize stepG p (i==0) (m.gs.swapAt! i {(default:Goroutine)with status:=.finished}).1 m.world b=s at h ⊢;cases s
 all_goals simp only[]
 all_goals try exact h
 all_goals try trivial
 ·exact sD.trans h (AR ..)
 ·exact Qr trivial h
 ·split
  ·rename_i e;exact bR h (tU (Bm e).symm)
  ·split
   ·rename_i e;cases e;exact h
   ·trivial
  ·trivial
  ·trivial
 ·split
  ·exact h
  ·split
   ·rename_i e;cases e;exact h
   ·trivial
  ·trivial
 ·exact sD.trans h (Lx ..)
def OB(n:Nat):Move→Prop
 | .goroutine m _=>n≤m.world.drawn
 | .machine s _=>sD n s
theorem OB.trans{n k:Nat}{s:Move}(h:n≤k)(g:OB k s):OB n s:=by
 cases s with
 |goroutine m i=>exact bR h g
 |machine s o=>exact sD.trans h g
theorem Bx(p:Program)(m:Machine):OB m.world.drawn (askOn p m):=by
 have pick:∀(m:Machine)(rs:List Nat),OB m.world.drawn (match(choose (.sched rs.length)).run p m.world with
   | .halt _ w=>.machine (.ended (.stuck "sched" "") w)
   | .ok k world=>
    if rs.length≤1 then .goroutine {m with world} (rs.getD k 0)else
    match(choose (.extern "sched.slice" 65536)).run p world with
    | .halt _ w=>.machine (.ended (.stuck "sched.slice" "") w)
    | .ok n world=>.goroutine {m with world,rest:={m.rest with slice:=if n=0 then none else some (rs.getD k 0,n)}} (rs.getD k 0)):=by
  intro m rs;split
  ·trivial
  ·rename_i w1 e;have h:m.world.drawn≤w1.drawn:=cD e;split
   ·exact h
   ·split
    ·trivial
    ·rename_i e;exact bR h (cD e)
 unfold askOn;simp only[];split
 ·trivial
 ·rename_i k w1 e;have h:m.world.drawn≤w1.drawn:=cD e;clear e;split
  ·exact sD.trans h (Pi p {m with world:=w1} _)
  ·split
   ·split
    ·exact h
    ·split
     ·exact h
     ·split<;>trivial
   ·split
    ·exact OB.trans h (pick {m with world:=w1} _)
    ·split
     ·trivial
     ·rename_i w2 e;exact OB.trans (bR h (cD e)) (pick {m with world:=w2} _)
     ·rename_i e;exact bR h (cD e)
     ·rename_i k2 w2 e;exact OB.trans (bR h (cD e)) (pick (Machine.advanceTo {m with world:=w2} _) _)
theorem L9(p:Program)(m:Machine):OB m.world.drawn (ask p m):=by
 unfold ask;split
 ·split
  ·trivial
  ·rename_i w1 e;have h:m.world.drawn≤w1.drawn:=cD e;have h2:=Lx p m.gs m.rest w1;split
   ·rename_i e2;rw[e2]at h2;exact OB.trans (bR h h2) (Bx ..)
   ·exact sD.trans h h2
  ·rename_i w1 _ e;have h:m.world.drawn≤w1.drawn:=cD e;exact OB.trans h (Bx p {m with world:=w1})
 grind[Bx]
theorem TD(p:Program)(m:Machine):OB m.world.drawn (move p m):=by
 unfold move;split
 ·split
  ·exact ar _
  ·trivial
 ·split
  ·split
   ·exact ar _
   ·exact L9 p {m with rest:={m.rest with slice:=none}}
  grind[L9]
theorem S4(p:Program)(m:Machine):sD m.world.drawn (step p m):=by
 unfold step stepT;have h:=TD p m;split
 ·rename_i e;rw[e]at h;exact sD.trans h (TJ ..)
 ·rename_i e;rw[e]at h;exact h
theorem KD(p:Program):∀(n:Nat)(m m':Machine),runN p n m=.next m'→m.world.drawn≤m'.world.drawn
 |0,m,m',h=>by cases h;omega
 |n+1,m,m',h=>by
  rw[runN]at h;have h1:=S4 p m;split at h
  ·rename_i e;rw[e]at h1;exact bR h1 (KD p n _ _ h)
  simp_all
theorem Px{p:Program}{m m':Machine}(h:Steps p m m'):m.world.drawn≤m'.world.drawn:=by
 obtain⟨n,h⟩:=h;exact KD p n m m' h
theorem HG{p:Program}{f:FuncId}{args:Array Value}{w:World}{R:Ending→World→Prop}(h:Calls p f args w R):Calls p f args w fun e w'=>R e w'∧((∃v,e=.returned v)→w.drawn≤w'.drawn):=by
 intro cs;obtain⟨e,w',fr,h1,h2,h3,h4⟩:=h cs;refine⟨e,w',fr,⟨h1,?_⟩,h2,h3,h4⟩
 rintro⟨v,rfl⟩
 exact Px (m:=lone _ cs w) (m':=lone fr cs w') h2
end Go.Ev
namespace Go.Ev
open Go Go.RowKit
section
variable{P:Program}{G:eg}{pl:Pl}{M:dn}{h:AHeap}{w w':World}{f:FuncId}{args:List AV}{v:AV}
theorem cF.below(hr:cF pl M h w)(hb:Below w.heap.size w w'):cF pl M h w':=
 ⟨hr.dom,fun id p o h1 h2=>by rw[hb.block _ (hr.blk id p h1)];exact hr.obj id p o h1 h2,fun id p h1=>FJ (hr.blk id p h1) hb.size,hr.inj,
  fun b c h1=>by rw[hb.block _ (hr.memLt h1)];exact hr.imm b c h1,hr.sep⟩
theorem cT.below(hb:Below w.heap.size w w')(hd:w.drawn≤w'.drawn):cT h pl M w h pl M w':=⟨nW.refl _,fun _ _ h=>h,fun _ _ h=>h,hb.size,fun b h1 _=>hb.block b h1,fun id p h=>.inl ⟨p,h,rfl⟩,fun _ _ _ h=>h,fun _ _ h _=>h,fun _ _ h=>.inl h,hb.os,hb.tape,hb.output,hd⟩
theorem aA.below(hE:∀vs w,(callFunc f vs).run P w=.ok (.enter f vs) w)
  (hC:∀(pl:Pl)(M:dn)(w:World)(vs:Array Value)(h:AHeap),pb G pl M→cF pl M h w→VRels pl M args vs→∃cv,VRel pl M v cv∧Calls P f vs w fun e w'=>e=.returned cv∧Below w.heap.size w w'):aA P G f args v:=by
 intro h pl M w vs hG hr hv;obtain⟨cv,h1,h2⟩:=hC pl M w vs h hG hr hv;refine .inl ⟨hE _ _,Calls.mono (HG h2) fun e w' ⟨⟨he,hb⟩,hd⟩=>?_⟩;exact⟨cv,v,h,he,⟨rfl,rfl⟩,pl,M,h1,hr.below hb,cT.below hb (hd ⟨_,he⟩),ar _⟩
theorem aA.calls(hGT:iF G)(hE:∀vs w,(callFunc f vs).run P w=.ok (.enter f vs) w)(hp:aA P G f args v)(hG:pb G pl M)(hr:cF pl M h w){vs:Array Value}(hv:VRels (fun _=>none) M args vs):
  Calls P f vs w fun e w'=>(∃cv pl' M',e=.returned cv∧VRel pl' M' v cv)∧Below w.heap.size w w'∧w.drawn≤w'.drawn:=by
 have r0:cF (fun _=>none) M AHeap.none w:=⟨fun _ _ h=>(by grind),fun _ _ _ h _=>(by grind),fun _ _ h=>(by grind),fun _ _ _ _ h _ _=>(by grind),hr.imm,fun _ _ h=>(by grind)⟩
 rcases hp AHeap.none (fun _=>none) M w vs (hG.none hGT) r0 hv with⟨_,h2⟩|⟨cv,w1,v1,h1,e1,_,_⟩
 ·refine Calls.mono h2 fun e w' ⟨cv,v1,h1,he,⟨e1,e2⟩,pl',M',g1,g2,g3,_⟩=>?_
  subst e1;exact⟨⟨cv,pl',M',he,g1⟩,⟨g3.os,g3.tape,g3.out,g3.size,fun b hb=>g3.kept b hb fun id p h=>(by grind)⟩,g3.drawn⟩
 ·grind
end
end Go.Ev
namespace Go.Ev
open Go
def QH(lo hi:Int)(c:UInt8):Bool:=aw (au (.ofNat c.toNat) lo||au hi (.ofNat c.toNat))
abbrev kq:UInt8→Bool:=QH 48 57
abbrev Xo:UInt8→Bool:=QH 65 90
def eY(p:UInt8→Bool)(s:aO):Nat:=(s.takeWhile p).length
section
variable{p:UInt8→Bool}{s:aO}
theorem KE:eY p s≤s.length:=(List.takeWhile_prefix p).length_le
theorem KF:∀{s:aO}{i:Nat},i<eY p s→p (gD s i)=true
 |[],i,h=>by simp_all[eY]
 | c::r,i,h=>by
  cases hc:p c with
  |false=>simp_all[eY]
  |true=>
   cases i with
   |zero=>exact hc
   |succ i=>exact KF (s:=r) (by simp_all[eY])
theorem FL:∀{s:aO},eY p s<s.length→p (gD s (eY p s))=false
 |[],h=>by simp_all
 | c::r,h=>by
  cases hc:p c with
  |false=>simp[eY,hc,gD]
  |true=>
   have h2:eY p r<r.length:=by simp_all[eY]
   have:=FL (s:=r) h2;simp_all[eY,gD]
theorem vi:∀{s:aO},eY p s=s.length↔s.all p=true
 |[]=>by simp[eY]
 |c::r=>by
  have ih:eY p r=r.length↔r.all p=true:=vi;cases hc:p c with
  |false=>simp[eY,hc]
  |true=>simp_all[eY]
end
theorem W5{lo hi:Int}{c:UInt8}(h1:au hi (.ofNat c.toNat)=true):QH lo hi c=false:=by grind[QH]
def kZ(s:aO):Bool:=aw (au (.ofNat (s.take (eY kq s)).length) 1)&&(aw (au 4 (.ofNat (s.take (eY kq s)).length))&&(aw (al (.ofNat (gD (s.take (eY kq s)) 0).toNat) 48)&&(aw (au 3 (.ofNat (s.drop (eY kq s)).length))&&(s.drop (eY kq s)).all Xo)))
def rS(s:aO):Bool:=aw (au (.ofNat s.length) 1)&&(aw (au 24 (.ofNat s.length))&&s.all (QH 33 126))
def qk(l:List aO):Bool:=aw (au 256 (.ofNat l.length))&&l.all rS
theorem EU:({data:=#[]}:ByteArray).data.toList=([]:List UInt8):=rfl
theorem Rn(s:aO):au (.ofNat s.length) 1=dS s []:=by cases s<;>rfl
def dt{α:Type}(p:α→Bool):List α→Nat→Int
 |[],_=> -1
 |x::r,i=>bif p x then Int.ofNat i else dt p r (i+1)
theorem lV{α:Type}(p:α→Bool):∀(l:List α)(i:Nat),au (dt p l i) 0=aw (l.any p)
 |[],_=>rfl
 |x::r,i=>by
  unfold dt;rw[pg];cases h:p x with
  |true=>rfl
  |false=>simp_all[lV]
section
variable{α:Type}{p:α→Bool}{l x r:List α}{w:α}{j:Nat}
theorem oq(h1:l.drop j=x)(h2:x=w::r):l.length-(w::r).length=j∧l.length-r.length=j+1:=by grind
theorem mV(h1:l.drop j=x)(h2:x=w::r)(h3:dt p l 0=dt p (w::r) (l.length-(w::r).length))(h4:p w=true):dt p l 0=Int.ofNat j:=by rw[h3,(oq h1 h2).1,dt,h4];rfl
theorem kW(h1:l.drop j=x)(h2:x=w::r)(h3:dt p l 0=dt p (w::r) (l.length-(w::r).length))(h4:p w=false):dt p l 0=dt p r (l.length-r.length):=by rw[h3,(oq h1 h2).1,(oq h1 h2).2,dt,h4];rfl
end
def m8(s:PStep):Bool:=al s.kind 0&&dS s.label []
def tc(s:PStep):Bool:=au 0 s.kind&&(aw (au 7 s.kind)&&kZ s.label)
def Of:List PStep→Bool
 |[]=>true
 |s::r=>(m8 s||tc s)&&r.all tc
def ki(p:List PStep):Bool:=Of p&&aw (au 9 (.ofNat p.length))
def H4(p r:List PStep):Bool:=bif Nat.beq r.length p.length then Of r else r.all tc
theorem Oe{p:List PStep}:Of p=H4 p p:=by simp_all[H4]
theorem Vw{p:List PStep}:H4 p []=true:=by unfold H4;cases Nat.beq ([]:List PStep).length p.length<;>rfl
theorem ER{p x r:List PStep}{w:PStep}{j:Nat}(h1:p.drop j=x)(h2:x=w::r)(h3:Of p=H4 p (w::r)):Of p=((bif al (Int.ofNat j) 0 then(m8 w||tc w)else tc w)&&H4 p r):=by
 obtain⟨e1,e2⟩:=oq h1 h2;have e3:=congrArg List.length (h1.trans h2);simp only[wz,cP]at e1 e2 e3;have f1:Nat.beq r.length p.length=false:=by cases h:Nat.beq r.length p.length with|false=>rfl|true=>grind[Nat.eq_of_beq_eq_true]
 rw[h3];unfold H4;rw[f1];cases j with
 |zero=>
  have f2:Nat.beq (w::r).length p.length=true:=by simp_all
  rw[f2];rfl
 |succ j=>
  have f2:Nat.beq (w::r).length p.length=false:=by cases h:Nat.beq (w::r).length p.length with|false=>rfl|true=>simp_all
  rw[f2];rfl
def c8:Int→aO
 |0=>[98,111,111,107]
 |1=>[112,97,114,116]
 |2=>[115,101,99,116,105,111,110]
 |3=>[112,97,114,97,103,114,97,112,104]
 |4=>[116,97,98,108,101]
 |5=>[114,111,119]
 |6=>[99,101,108,108]
 |7=>[110,111,116,101]
 |_=>[]
def Iv:Int→List Int
 |0=>[1,2]
 |1=>[2]
 |2=>[3,4,7]
 |3=>[3,4,7]
 |4=>[5]
 |5=>[6]
 |_=>[]
def jJ(p k:Int):Bool:=(Iv p).any (al k)
theorem I9{k:Int}(h:k<0∨7<k):c8 k=[]:=by
 unfold c8;grind
theorem Iw{k:Int}(h:k<0∨7<k):Iv k=[]:=by
 unfold Iv;grind
end Go.Ev
namespace Go.Ev
open Go Go.RowKit Go.Proofs
structure ClassOf(p:UInt8→Bool)(q:Nat→Bool):Prop where
 low:∀c:UInt8,c.toNat<128→q c.toNat=aw (p c)
 high:∀n,128≤n→q n=true
 none:∀c:UInt8,128≤c.toNat→p c=false
theorem Um{s:aO}{i:Nat}(h:i<s.length)(h2:i<ByteArray.size ⟨⟨s⟩⟩):(ByteArray.mk ⟨s⟩)[i]'h2=gD s i:=by
 simp[gD,List.getD,lp h];rfl
theorem uc{p:UInt8→Bool}{q:Nat→Bool}(hc:ClassOf p q)(s:aO):∀(f pos:Nat),pos≤eY p s→s.length≤pos+f→Lib.idxFuncFrom q true ⟨⟨s⟩⟩ f pos=(bif Nat.beq (eY p s) s.length then -1 else Int.ofNat (eY p s))
 | f,pos,h1,h2=>by
  have hl:=KE (p:=p) (s:=s);have hsz:ByteArray.size ⟨⟨s⟩⟩=s.length:=rfl;by_cases he:pos<s.length
  ·cases f with
   |zero=>omega
   | succ f=>
    unfold Lib.idxFuncFrom;rw[hsz,if_pos he];have hb:=Um he (by rw[hsz];exact he);by_cases hr:pos<eY p s
    ·have hp:=KF hr;have ha:(gD s pos).toNat<128:=by
      rcases fe (gD s pos).toNat 128 with h|h
      ·exact h
      ·rw[hc.none _ h]at hp;cases hp
     rw[decode_ascii _ pos (by rw[hsz];exact he) (by rw[hb];exact ha),hb];rw[if_neg (by rw[hc.low _ ha,hp];decide)];exact uc hc s f (pos+1) hr (by omega)
    ·have e:eY p s=pos:=by omega
     have hp:=FL (p:=p) (s:=s) (by omega);rw[e]at hp;have hq:q (Utf8.decode ⟨⟨s⟩⟩ pos).1=true:=by
      rcases fe (gD s pos).toNat 128 with h|h
      ·rw[decode_ascii _ pos (by rw[hsz];exact he) (by rw[hb];exact h),hb,hc.low _ h,hp];rfl
      ·exact hc.high _ (decode_high _ pos (by rw[hsz];exact he) (by rw[hb];exact h)).1
     rw[if_pos hq,e];have f1:Nat.beq pos s.length=false:=by cases h:Nat.beq pos s.length with|false=>rfl|true=>have:=pc h;omega
     rw[f1];rfl
  ·have e:eY p s=s.length:=by omega
   rw[Lib.idxFuncFrom_end _ _ _ _ _ (by rw[hsz];exact he),e,pP];rfl
theorem xW{p:UInt8→Bool}{q:Nat→Bool}(hc:ClassOf p q)(s:aO):Lib.idxFunc q true ⟨⟨s⟩⟩=(bif Nat.beq (eY p s) s.length then -1 else Int.ofNat (eY p s)):=uc hc s _ 0 (bH _) (by show s.length≤0+s.length;omega)
section
variable{P:Program}{G:eg}{f g:FuncId}
theorem Co{pl:Pl}{M:dn}{w:World}{h:AHeap}(hGT:iF G)(hg2:∀args w,(callFunc g args).run P w=.ok (.enter g args) w){q:Nat→Bool}{qI:Int→Bool}(hp:∀r:Int,aA P G g [.int .i32 r] (.bool (qI r)))(hq:∀n:Nat,qI (.ofNat n)=q n)
  (hG:pb G pl M)(hr:cF pl M h w):PredGrows P g #[] q w:=by
 intro W x _ hb;refine Calls.mono (aA.calls hGT hg2 (hp (.ofNat x)) hG (hr.below hb) (vs:=#[.int .i32 (.ofNat x)]) ⟨rfl,fun j y hj=>?_⟩) fun e w' ⟨⟨cv,pl',M',he,hv⟩,hb',_⟩=>?_
 ·cases j with
  |zero=>simp at hj;subst hj;exact .int _ _
  |succ j=>simp_all
 grind[cases VRel]
theorem Aj(hGT:iF G)(hE:∀vs w,(callFunc f vs).run P w=.ok (.enter f vs) w)(hg2:∀args w,(callFunc g args).run P w=.ok (.enter g args) w){q:Nat→Bool}{qI:Int→Bool}
  (hC:∀(s:ByteArray)(w:World),PredGrows P g #[] q w→Calls P f #[.string s,.func (.func g) #[] #[]] w fun e w'=>e=.returned (.int .i64 (Lib.idxFunc q true s))∧Below w.heap.size w w')
  (hp:∀r:Int,aA P G g [.int .i32 r] (.bool (qI r)))(hq:∀n:Nat,qI (.ofNat n)=q n){p:UInt8→Bool}(hc:ClassOf p q)(s:aO):
  aA P G f [.str s,.func (.func g) [] []] (.int .i64 (bif Nat.beq (eY p s) s.length then -1 else Int.ofNat (eY p s))):=by
 refine aA.below hE fun pl M w vs h hG hr hv=>?_
 obtain⟨a,b,rfl,hv1,hv2⟩:=Bv hv;have e2:=zw hv2;subst e2;cases hv1
 rw[←xW hc s];exact⟨_,.int _ _,hC ⟨⟨s⟩⟩ w (Co hGT hg2 hp hq hG hr)⟩
theorem uH(hGT:iF G)(hE:∀vs w,(callFunc f vs).run P w=.ok (.enter f vs) w)(hg2:∀args w,(callFunc g args).run P w=.ok (.enter g args) w){q:Nat→Bool}{qI:Int→Bool}
  (hC:∀(s:ByteArray)(w:World),PredGrows P g #[] q w→Calls P f #[.string s,.func (.func g) #[] #[]] w fun e w'=>e=.returned (.bool (decide (0≤Lib.idxFunc q true s)))∧Below w.heap.size w w')
  (hp:∀r:Int,aA P G g [.int .i32 r] (.bool (qI r)))(hq:∀n:Nat,qI (.ofNat n)=q n){p:UInt8→Bool}(hc:ClassOf p q)(s:aO):
  aA P G f [.str s,.func (.func g) [] []] (.bool (aw (s.all p))):=by
 refine aA.below hE fun pl M w vs h hG hr hv=>?_
 obtain⟨a,b,rfl,hv1,hv2⟩:=Bv hv;have e2:=zw hv2;subst e2;cases hv1
 have e:aw (s.all p)=decide (0≤Lib.idxFunc q true ⟨⟨s⟩⟩):=by
  rw[xW hc s];cases ha:s.all p with
  |true=>rw[(vi (p:=p)).2 ha,pP];rfl
  | false=>
   have:Nat.beq (eY p s) s.length=false:=by
    cases hb:Nat.beq (eY p s) s.length with
    |false=>rfl
    |true=>grind[vi,Nat.eq_of_beq_eq_true]
   simp_all
 rw[e];exact⟨_,.bool _,hC ⟨⟨s⟩⟩ w (Co hGT hg2 hp hq hG hr)⟩
end
theorem HA{lo hi:Nat}(h:hi<128):ClassOf (QH (Int.ofNat lo) (Int.ofNat hi)) fun n=>au (Int.ofNat n) (Int.ofNat lo)||au (Int.ofNat hi) (Int.ofNat n) where
 low c _:=by unfold QH;simp_all
 high n hn:=by rw[show au (Int.ofNat hi) (Int.ofNat n)=true from lX (by grind)];simp_all
 none c hn:=W5 (lX (by grind))
end Go.Ev
namespace Go.Ev
open Go Go.RowKit
section
variable{P:Program}{G:eg}{f:FuncId}
theorem Ia{pl:Pl}{M:dn}{w:World}{h:AHeap}(hr:cF pl M h w){l:List aO}{a:Addr}{n cap:Nat}(hv:VRel pl M (.ps (l.map mS) false) (.slice (some a) n cap))(hne:l≠[]):
  n=l.length∧n≤cap∧a=⟨a.block,a.off,none⟩∧a.block<w.heap.size∧∀(j:Nat)(x:ByteArray),(l.map fun s=>(⟨⟨s⟩⟩:ByteArray))[j]?=some x→w.cell? ⟨a.block,a.off+j,none⟩=some (.string x):=by
 cases hv with
 | ps hl ht hm hs hc=>
  rename_i sz c;have hne':l.map mS≠[]:=by simp_all
  obtain⟨m1,m2,m3,m4⟩:=hm hne';obtain⟨t,fr,hb⟩:=hr.imm _ _ m2;have hsz:sz=1:=by
   cases l with
   |nil=>simp_all
   |cons s r=>exact((hs (mS s) (by simp)).1).symm
  subst hsz;refine⟨by simp,hl,by rw[←m1],hr.memLt m2,fun j x hj=>?_⟩;rw[qQ]at hj;obtain⟨s,e1,rfl⟩:=FX.1 hj;have hlt:j<l.length:=(gy.1 e1).1;have q:=hc j (mS s) 0 (.str s) (by simp_all) rfl;rw[Nat.mul_one,pf]at q;have hin:a.off+j<c.size:=by grind
  have e2:c[a.off+j]?=some (c.getD (a.off+j) undef):=by simp_all
  simp only[World.cell?,hb];simp only[Option.isSome_none,gw,if_false];rw[e2];cases hq:c.getD (a.off+j) undef<;>rw[hq]at q<;>cases q
  rfl
theorem NB(hE:∀vs w,(callFunc f vs).run P w=.ok (.enter f vs) w)
  (hC:∀(bk o c:Nat)(xs:List ByteArray)(sep:ByteArray)(w:World),(∀(j:Nat) x,xs[j]?=some x→w.cell? ⟨bk,o+j,none⟩=some (.string x))→bk<w.heap.size→xs.length≤140737488355328→xs.length≤c→
   (Lib.join (xs.map (·.data.toList)) sep.data.toList).length≤140737488355328→
   Calls P f #[.slice (some ⟨bk,o,none⟩) xs.length c,.string sep] w fun e w'=>e=.returned (.string ⟨(Lib.join (xs.map (·.data.toList)) sep.data.toList).toArray⟩)∧Below w.heap.size w w')
  (hN:∀(a:Option Addr)(c:Nat)(sep:ByteArray)(w:World),Calls P f #[.slice a 0 c,.string sep] w fun e w'=>e=.returned (.string ⟨#[]⟩)∧w'=w)
  (l:List aO)(sep:aO)(h1:l.length≤140737488355328)(h2:(Lib.join l sep).length≤140737488355328):aA P G f [.ls (l.map mS),.str sep] (.str (Lib.join l sep)):=by
 refine aA.below hE fun pl M w vs h hG hr hv=>?_
 obtain⟨a,b,rfl,hv1,hv2⟩:=Bv hv;cases hv2
 have nil (p:Option Addr) (cap:Nat) (hl:l=[]):∃cv,VRel pl M (.str (Lib.join l sep)) cv∧Calls P f #[.slice p 0 cap,.string ⟨⟨sep⟩⟩] w fun e w'=>e=.returned cv∧Below w.heap.size w w':=by
  subst hl;exact⟨.string ⟨⟨[]⟩⟩,.str _,Calls.mono (hN p cap ⟨⟨sep⟩⟩ w) fun e w' ⟨he,hw⟩=>⟨he,hw▸Below.refl _ _⟩⟩
 generalize hx:l.map mS=xs at hv1;cases hv1 with
 |lsn=>simp_all
 | lsp hp ht=>
  subst hx;by_cases hl:l=[]
  ·subst hl;cases hp with
   |ps=>simp_all
  ·have hp':=hp;cases hp with
   |ps=>
    rename_i a cap sz c _ _ _ _ _;obtain⟨e1,e2,e3,e4,e5⟩:=Ia hr hp' hl;have e6:(l.map fun s=>(⟨⟨s⟩⟩:ByteArray)).map (·.data.toList)=l:=by rw[List.map_map];exact List.map_id l
    have:=hC a.block a.off cap (l.map fun s=>⟨⟨s⟩⟩) ⟨⟨sep⟩⟩ w e5 e4 (by grind) (by grind) (by grind);rw[e6,←e3,b9,←e1]at this;exact⟨.string ⟨⟨Lib.join l sep⟩⟩,.str _,this⟩
theorem FN(hE:∀vs w,(callFunc f vs).run P w=.ok (.enter f vs) w)
  (hC:∀(s:ByteArray)(c:Nat)(w:World),c≤9223372036854775807→s.size*c≤140737488355328→Calls P f #[.string s,.int .i64 c] w fun e w'=>e=.returned (.string ⟨(Lib.repeatL s.data.toList c).toArray⟩)∧Below w.heap.size w w')
  (s:aO)(c:Nat)(h1:c≤9223372036854775807)(h2:s.length*c≤140737488355328):aA P G f [.str s,.int .i64 (.ofNat c)] (.str (Lib.repeatL s c)):=by
 refine aA.below hE fun pl M w vs h hG hr hv=>?_
 obtain⟨a,b,rfl,hv1,hv2⟩:=Bv hv;cases hv1;cases hv2
 exact⟨.string ⟨⟨Lib.repeatL s c⟩⟩,.str _,hC ⟨⟨s⟩⟩ c w h1 h2⟩
theorem MD(hE:∀vs w,(callFunc f vs).run P w=.ok (.enter f vs) w)
  (hC:∀(s cs:ByteArray)(w:World),s.size≤9223372036854775807→cs.size<4294967281→(∀(j:Nat) b,cs.data.toList[j]?=some b→b.toNat<128)→
   Calls P f #[.string s,.string cs] w fun e w'=>e=.returned (.string ⟨(Lib.trimS s.data.toList cs.data.toList).toArray⟩)∧Below w.heap.size w w')
  (s cs:aO)(h1:s.length≤9223372036854775807)(h2:cs.length<4294967281)(h3:∀b,b∈cs→b.toNat<128):aA P G f [.str s,.str cs] (.str (Lib.trimS s cs)):=by
 refine aA.below hE fun pl M w vs h hG hr hv=>?_
 obtain⟨a,b,rfl,hv1,hv2⟩:=Bv hv;cases hv1;cases hv2
 exact⟨.string ⟨⟨Lib.trimS s cs⟩⟩,.str _,hC ⟨⟨s⟩⟩ ⟨⟨cs⟩⟩ w h1 h2 fun j b hj=>h3 b (bi hj)⟩
end
end Go.Ev
namespace Go.Ev
open Go
structure PId where
 a:Int
 i:Int
 n:Int
 deriving Inhabited,DecidableEq
noncomputable def aY(p:PId):AV:=.agg [.int .i64 p.a,.int .i64 p.i,.int .i64 p.n]
theorem Ji(p:PId):(aY p).top=0:=rfl
def bz(u:TUnit):PId:=⟨u.act,u.item,u.n⟩
def bg(p q:PId):Bool:=al p.a q.a&&(al p.i q.i&&al p.n q.n)
theorem yc{p q:PId}(h:bg p q=true):p=q:=by
 unfold bg at h;rw[bx,bx]at h;obtain⟨a,b,c⟩:=p;obtain⟨d,e,g⟩:=q;grind[kV]
theorem mM(p:PId):bg p p=true:=by simp[bg,bw]
abbrev fG(p:PId)(u:TUnit):Bool:=bg (bz u) p
theorem JW:KeyOf PId true 3 [(0,1),(1,1),(2,1)] aY bg where
 eq a b:=by
  show xD [.int .i64 a.a,.int .i64 a.i,.int .i64 a.n] [.int .i64 b.a,.int .i64 b.i,.int .i64 b.n] [(0,1),(1,1),(2,1)]=_
  simp only[xD,jy,SG,Jd,kf,bg];cases h1:al a.a b.a<;>cases h2:al a.i b.i<;>cases h3:al a.n b.n<;>rfl
 t a b h:=yc h
 refl a:=mM a
 same a:=by simp[aY,mK,jg,jD,kf,bw]
 top a:=rfl
mutual
def nU:TUnit→Nat
 |⟨_,_,_,_,_,_,_,ks⟩=>1+eQ ks
def eQ:List TUnit→Nat
 |[]=>0
 |k::r=>nU k+eQ r
end
mutual
def mT:TUnit→Nat
 |⟨_,_,_,_,_,_,_,ks⟩=>kg ks
def kg:List TUnit→Nat
 |[]=>0
 |k::r=>Nat.max (1+mT k) (kg r)
end
mutual
def bp:TUnit→List TUnit
 |⟨x1,x2,x3,x4,x5,x6,x7,ks⟩=>⟨x1,x2,x3,x4,x5,x6,x7,ks⟩::dm ks
def dm:List TUnit→List TUnit
 |[]=>[]
 |k::r=>bp k++dm r
end
mutual
def aH(p:PId):TUnit→List TUnit
 |⟨x1,x2,x3,x4,x5,x6,x7,ks⟩=>bif fG p ⟨x1,x2,x3,x4,x5,x6,x7,ks⟩then[⟨x1,x2,x3,x4,x5,x6,x7,ks⟩]else match cn p ks with
  |[]=>[]
  |y::t=>⟨x1,x2,x3,x4,x5,x6,x7,ks⟩::y::t
def cn(p:PId):List TUnit→List TUnit
 |[]=>[]
 |k::r=>match aH p k with
  |[]=>cn p r
  |y::t=>y::t
end
theorem i7(u:TUnit):nU u=1+eQ u.kids:=by cases u;rw[nU];rfl
theorem mX:eQ []=0:=by rw[eQ]
theorem bh(k:TUnit)(r:List TUnit):eQ (k::r)=nU k+eQ r:=by rw[eQ]
theorem LI(u:TUnit):mT u=kg u.kids:=by cases u;rw[mT];rfl
theorem Dz:kg []=0:=by rw[kg]
theorem Jo(k:TUnit)(r:List TUnit):kg (k::r)=Nat.max (1+mT k) (kg r):=by rw[kg]
theorem dq(u:TUnit):bp u=u::dm u.kids:=by cases u;rw[bp];rfl
theorem fR:dm []=[]:=by rw[dm]
theorem bL(k:TUnit)(r:List TUnit):dm (k::r)=bp k++dm r:=by rw[dm]
def dY(u:TUnit):List PId:=(bp u).map bz
def ia(l:List TUnit):List PId:=(dm l).map bz
theorem nb(u:TUnit):dY u=bz u::ia u.kids:=by unfold dY ia;rw[dq];rfl
theorem ry:ia []=[]:=by unfold ia;rw[fR];rfl
theorem gz(k:TUnit)(r:List TUnit):ia (k::r)=dY k++ia r:=by grind[dY,ia,bL]
theorem EZ:∀{l:List TUnit}{k:TUnit},k∈l→nU k≤eQ l
 |x::r,k,h=>by
  rw[bh];rcases fw.1 h with rfl|h
  ·omega
  ·have:=EZ h;omega
theorem iz{u k:TUnit}(h:k∈u.kids):nU k<nU u:=by rw[i7 u];have:=EZ h;omega
theorem I3(u:TUnit):0<nU u:=by grind[i7]
theorem yq:∀(l:List TUnit),l.length≤eQ l
 |[]=>by simp_all
 |k::r=>by
  rw[bh,cP];have:=yq r;grind[I3]
theorem bf(u:TUnit):u.kids.length<nU u:=by grind[i7,yq]
theorem NU{l:List TUnit}(h:∀k,k∈l→(bp k).length=nU k):(dm l).length=eQ l:=by
 induction l with
 |nil=>rw[fR,mX];rfl
 |cons k r ih=>grind[bL,bh]
theorem F1:∀(u:TUnit),(bp u).length=nU u:=TUnit.ind fun u ih=>by grind[dq,i7,NU]
theorem ud(u:TUnit):(dY u).length=nU u:=by grind[dY,F1]
theorem RC{l:List TUnit}{n:Nat}(h:∀k,k∈l→1+mT k≤n):kg l≤n:=by
 induction l with
 |nil=>grind[Dz]
 |cons k r ih=>grind[Jo]
theorem Er:∀(u:TUnit),mT u<nU u:=TUnit.ind fun u ih=>by
 have:kg u.kids≤eQ u.kids:=RC fun k hk=>by have:=ih k hk;have:=EZ hk;omega
 grind[LI,i7]
section
variable{p:PId}{u w:TUnit}{r:List TUnit}
theorem gv(u:TUnit):aH p u=bif fG p u then[u]else match cn p u.kids with|[]=>[]|y::t=>u::y::t:=by cases u;rw[aH];rfl
theorem kp:cn p []=[]:=by rw[cn]
theorem om(k:TUnit)(r:List TUnit):cn p (k::r)=match aH p k with|[]=>cn p r|y::t=>y::t:=by rw[cn]
def cV(p:PId)(u:TUnit):Bool:=aw (aH p u).isEmpty
theorem Ay(h:cV p u=false):aH p u=[]:=by grind[cV]
theorem vS(h:cV p u=true):∃y t,aH p u=y::t:=by
 unfold cV at h;cases e:aH p u with
 |nil=>grind
 |cons x r=>simp_all
theorem kS(h:cV p u=true):aH p u≠[]:=by grind[vS]
theorem qT(h:fG p u=true):aH p u=[u]:=by rw[gv,h];rfl
theorem Ed(h:fG p u=true):cV p u=true:=by unfold cV;rw[qT h];rfl
theorem iG(h:cV p w=false):cn p (w::r)=cn p r:=by rw[om,Ay h]
theorem nR(h:cV p w=true):cn p (w::r)=aH p w:=by grind[vS,om]
theorem O4(h:fG p u=false)(h2:cn p u.kids=cn p []):aH p u=[]:=by rw[gv,h,h2,kp];rfl
theorem GI(h:fG p u=false)(h2:cn p u.kids=cn p []):cV p u=false:=by unfold cV;rw[O4 h h2];rfl
theorem J3(h:fG p u=false)(h2:cn p u.kids=cn p (w::r))(h3:cV p w=true):aH p u=u::aH p w:=by grind[gv,nR,vS]
theorem Ue(h:fG p u=false)(h2:cn p u.kids=cn p (w::r))(h3:cV p w=true):cV p u=true:=by unfold cV;rw[J3 h h2 h3];rfl
end
theorem l9{p:PId}:∀(u:TUnit),(aH p u).length≤nU u:=TUnit.ind fun u ih=>by
 rw[gv];cases fG p u with
 |true=>exact I3 u
 | false=>
  have key:∀(r:List TUnit),(∀k,k∈r→k∈u.kids)→(cn p r).length≤eQ r:=by
   intro r;induction r with
   |nil=>grind[kp]
   |cons k r ihr=>grind[om,bh]
  grind[i7]
def be:TUnit:=⟨0,0,0,0,[],[],[],[]⟩
noncomputable def ej(p:PId)(u:TUnit):TUnit:=bif cV p u then gD (aH p u) ((aH p u).length -1)else be
theorem J5{p:PId}:∀(u:TUnit)(x:TUnit),x∈aH p u→x∈bp u:=TUnit.ind fun u ih=>by
 intro x hx;rw[gv]at hx;rw[dq];cases h:fG p u with
 |true=>simp_all
 | false=>
  rw[h]at hx;simp only[cond_false]at hx;have key:∀(r:List TUnit),(∀k,k∈r→k∈u.kids)→∀x,x∈cn p r→x∈dm r:=by
   intro r;induction r with
   |nil=>grind[kp]
   |cons k r ihr=>grind[om,bL]
  grind
noncomputable def pn(p:Int×aO):AV:=.agg [.int .i64 p.1,.str p.2]
def mO(a b:Int×aO):Bool:=al a.1 b.1&&dS a.2 b.2
theorem Au:∀(s:aO),dS s s=true
 |[]=>rfl
 |c::r=>by simp only[dS,Au r,Bool.and_true];simp_all
theorem Rl:∀{a b:aO},dS a b=true→a=b
 |[],[],_=>rfl
 |c::r,d::q,h=>by
  simp only[dS,bx]at h;rw[Rl h.2,UInt8.toNat_inj.1 (pc h.1)]
theorem Lf:KeyOf (Int×aO) true 2 [(0,1),(1,2)] pn mO where
 eq a b:=by
  show xD [.int .i64 a.1,.str a.2] [.int .i64 b.1,.str b.2] [(0,1),(1,2)]=_
  simp only[xD,jy,SG,Jd,kf,mO];cases h1:al a.1 b.1<;>cases h2:dS a.2 b.2<;>rfl
 t a b h:=by
  simp only[mO,bx]at h;grind[kV,Rl]
 refl a:=by simp[mO,bw,Au]
 same a:=by simp[pn,mK,jg,jD,kf,bw,Au]
 top a:=rfl
noncomputable def dU(b:Bool):AV:=.bool b
theorem AE(b:Bool):(dU b).top=0:=rfl
def OC{K:Type}(keq:K→K→Bool)(k:K)(l:List (K×Bool)):Bool:=(nL keq k l).getD false
section
variable{K:Type}{ag:Bool}{sz:Nat}{lv:List (Nat×Nat)}{kenc:K→AV}{keq:K→K→Bool}
theorem Gw(hk:KeyOf K ag sz lv kenc keq)(m:List (K×Bool))(k:K):eH (some (.bool false)) false (bc ag sz lv (kenc k) (cZ kenc dU m 0) 0)=some (.bool (OC keq k m)):=by
 rw[zT hk];unfold OC;cases nL keq k m with
 |none=>rfl
 |some v=>rfl
theorem J6(hk:KeyOf K ag sz lv kenc keq)(m:List (K×Bool))(k:K):rF (cZ kenc dU m 0) m.length (kenc k) (.bool true) (bc ag sz lv (kenc k) (cZ kenc dU m 0) 0)=some (cZ kenc dU (fC keq k true m) 0,(fC keq k true m).length):=Cw (f:=dU) hk k true m
end
def og(l:List PWord):Bool:=aw (au 256 (.ofNat l.length))&&qk (l.map fun w=>w.text)
def mF(pk:Int):List TUnit→List ((Int×aO)×Bool)→Bool
 |[],_=>true
 |k::r,m=>jJ pk k.kind&&(aw (OC mO (k.kind,k.label) m)&&mF pk r (fC mO (k.kind,k.label) true m))
def lL(u:TUnit):Bool:=(bif al u.kind 0 then dS u.label []&&aw (au 0 (.ofNat (u.head.length+u.words.length)))else aw (dS (c8 u.kind) [])&&(kZ u.label&&(og u.head&&og u.words)))&&(mF u.kind u.kids []&&aw (au 64 (.ofNat u.kids.length)))
def wY(q:TUnit→Bool)(u:TUnit):Bool:=(bp u).all q
theorem yl(q:TUnit→Bool)(u:TUnit):wY q u=(q u&&(dm u.kids).all q):=by grind[wY,dq]
theorem Od(q:TUnit→Bool):(dm []).all q=true:=by rw[fR];rfl
theorem Bd(q:TUnit→Bool)(k:TUnit)(r:List TUnit):(dm (k::r)).all q=(wY q k&&(dm r).all q):=by rw[bL,List.all_append];rfl
def Cf(l:List PId)(m:List (PId×Bool)):List (PId×Bool):=l.foldl (fun m p=>fC bg p true m) m
def bT:PId:=⟨0,0,0⟩
def QR(u:TUnit):Bool:=(OC bg bT (Cf (dY u) [])&&al (.ofNat (Cf (dY u) []).length) 1)||(al (.ofNat (Cf (dY u) []).length) (.ofNat (dY u).length)&&(al u.kind 0==fG bT u))
def kr(u:TUnit):Bool:=wY lL u&&(aw (au 8 (.ofNat (mT u)))&&(aw (au 1024 (.ofNat (nU u)))&&QR u))
theorem bA{u k:TUnit}(h:k∈u.kids){x:TUnit}(hx:x∈bp k):x∈bp u:=by
 rw[dq];refine e9 _ ?_;generalize u.kids=l at h;induction l with
 |nil=>grind
 |cons y r ih=>grind[bL]
theorem dK(u:TUnit):u∈bp u:=by grind[dq]
theorem Ld{u k:TUnit}(h:k∈u.kids):k∈bp u:=bA h (dK k)
end Go.Ev
namespace Go.Ev
open Go
def cE{α:Type}(q:α→α→Bool):List α→List α→Bool
 |[],[]=>true
 |x::l,y::m=>q x y&&cE q l m
 |_,_=>false
theorem lz{α:Type}{q:α→α→Bool}:∀{l m:List α},l.length≠m.length→cE q l m=false
 |[],[],h=>absurd rfl h
 |[],y::m,_=>rfl
 |x::l,[],_=>rfl
 |x::l,y::m,h=>by
  unfold cE;rw[lz (l:=l) (m:=m) (fun e=>h (by simp[e]))];exact wy _
section
variable{α:Type}[Inhabited α]{q:α→α→Bool}{l m x r:List α}{w:α}{j:Nat}
omit [Inhabited α]in
theorem At:cE q l m=cE q l (m.drop (l.length-l.length)):=by simp_all
theorem ye{m:List α}{j:Nat}(h:j<m.length):m.drop j=gD m j::m.drop (j+1):=by grind[List.drop_eq_getElem_cons,gD]
theorem ib(h1:l.drop j=x)(h2:x=w::r)(hl:l.length=m.length)(h3:cE q l m=cE q (w::r) (m.drop (l.length-(w::r).length))):cE q l m=(q w (gD m j)&&cE q r (m.drop (l.length-r.length))):=by
 have e:=congrArg List.length (h1.trans h2);simp only[wz,cP]at e;rw[h3,(oq h1 h2).1,(oq h1 h2).2,ye (by omega),cE]
omit [Inhabited α]in
theorem mR(hl:l.length=m.length)(h3:cE q l m=cE q [] (m.drop (l.length-([]:List α).length))):cE q l m=true:=by rw[h3,gp,Nat.sub_zero,hl,List.drop_length];rfl
end
def DW(a b:PWord):Bool:=dS a.text b.text&&(al a.act b.act&&(al a.item b.item&&al a.at_ b.at_))
mutual
def Ao:TUnit→TUnit→Bool
 |⟨a,i,n,k,l,h,w,ks⟩,v=>bg ⟨a,i,n⟩ (bz v)&&(al k v.kind&&(dS l v.label&&(cE DW h v.head&&(cE DW w v.words&&N5 ks v.kids))))
def N5:List TUnit→List TUnit→Bool
 |[],[]=>true
 |k::r,[]=>false
 |k::r,x::s=>Ao k x&&N5 r s
 |[],x::s=>false
end
theorem Rd(u v:TUnit):Ao u v=(bg (bz u) (bz v)&&(al u.kind v.kind&&(dS u.label v.label&&(cE DW u.head v.head&&(cE DW u.words v.words&&cE Ao u.kids v.kids))))):=by
 have key:∀(l m:List TUnit),N5 l m=cE Ao l m:=by
  intro l;induction l with
  |nil=>intro m;cases m<;>(rw[N5];rfl)
  |cons x l ih=>intro m;cases m with|nil=>rw[N5];rfl|cons y m=>rw[N5,ih];rfl
 cases u
 rw[Ao,key];rfl
end Go.Ev
namespace Go.Ev
open Go
def IW(u v:AV):Prop:=(Sc v→Sc u)∧Les u.cells v.cells
theorem IW.refl(v:AV):IW v v:=⟨id,Les.refl _⟩
theorem IW.one{u v:AV}(hu:u.cells=[u])(hv:v.cells=[v])(hs:cH u=true)(h:Le u v):IW u v:=⟨fun _ y hy=>by simp_all,by rw[hu,hv];exact .cons h .nil⟩
inductive LesC:List AV→List AV→Prop
 |nil:LesC [] []
 |cons {u v:AV} {us vs:List AV} (h:IW u v) (k:LesC us vs):LesC (u::us) (v::vs)
theorem LesC.len{us vs:List AV}(h:LesC us vs):us.length=vs.length:=by
 induction h with
 |nil=>rfl
 |cons _ _ ih=>simp_all
theorem LesC.at_{us vs:List AV}(h:LesC us vs):∀(j:Nat)(u:AV),us[j]?=some u→∃v,vs[j]?=some v∧IW u v:=by
 induction h with
 |nil=>simp_all
 |cons h k ih=>grind
theorem E4{xs ys:List AV}{t:Bool}(h:LesC xs ys):Le (.ps xs false) (.ps ys t):=fun pl M v hv=>by
 cases hv with
 | @ps _ _ a cap sz c hl ht hm hs hc=>
  rw[←h.len];refine .ps (sz:=sz) (c:=c) (by rw[h.len];omega) (fun h=>by grind) (fun hx=>?_) (fun x hx=>?_) fun i x j y hx hy=>?_
  ·have:ys≠[]:=fun e=>hx (rR (by rw[h.len,e];rfl))
   rw[h.len];simp_all
  ·obtain⟨i,hi⟩:=CV hx;obtain⟨y,h1,h2,h3⟩:=h.at_ i x hi;have:=hs y (bi h1);exact⟨h3.len.trans this.1,h2 this.2⟩
  ·obtain⟨z,h1,_,h3⟩:=h.at_ i x hx;obtain⟨d,h4,h5⟩:=h3.at_ j y hy;exact h5 _ _ _ (hc i z j d h1 h4)
theorem XP{xs ys:List AV}{t:Bool}(h:LesC xs ys)(h0:ax xs=0):Le (.ls xs) (.ps ys t):=fun pl M v hv=>.lsp (E4 h pl M v hv) h0
theorem XR{xs ys:List AV}(h:LesC xs ys)(h0:ax xs=0):Le (.ls xs) (.ls ys):=fun pl M v hv=>by
 cases hv with
 |lsn=>cases h;exact .lsn
 |lsp hv _=>exact .lsp (E4 h pl M v hv) h0
theorem Le.pls{x:AV}{xs ys:List AV}(h:LesC (x::xs) ys):Le (.ps (x::xs) false) (.ls ys):=fun pl M v hv=>by
 cases hv with
 |lsn=>cases h
 |lsp hv _=>exact E4 h pl M v hv
mutual
def Bl:AV→AV→Bool
 | .ls xs,.nils=>xs.isEmpty
 | .ls xs,.ps ys _=>ky xs ys&&Nat.beq (ax xs) 0
 | .ls xs,.ls ys=>ky xs ys&&Nat.beq (ax xs) 0
 | .ps (x::xs) false,.ls ys=>ky (x::xs) ys
 | .ps xs false,.ps ys _=>ky xs ys
 | .agg us,.agg vs=>ky us vs&&us.all cH
 |u,v=>AV.same u v
def ky:List AV→List AV→Bool
 |[],[]=>true
 |a::us,b::vs=>Bl a b&&ky us vs
 |_,_=>false
end
theorem IW.same{u v:AV}(h:AV.same u v=true):Le u v∧IW u v:=by grind[AV.same_eq,Le.refl,IW.refl]
mutual
theorem wq:∀(u v:AV),Bl u v=true→Le u v∧IW u v:=fun u v h=>by
 unfold Bl at h;split at h
 ·rename_i xs;have e:xs=[]:=by simp_all
  subst e;exact⟨Le.nils,IW.one rfl rfl rfl Le.nils⟩
 ·rename_i xs ys t;have h:=pN.1 h;have k:=XP (t:=t) (jr xs ys h.1).2 (pc h.2);exact⟨k,IW.one rfl rfl rfl k⟩
 ·rename_i xs ys;have h:=pN.1 h;have k:=XR (jr xs ys h.1).2 (pc h.2);exact⟨k,IW.one rfl rfl rfl k⟩
 ·rename_i x xs ys;have k:=Le.pls (jr (x::xs) ys h).2;exact⟨k,IW.one rfl rfl rfl k⟩
 ·rename_i xs ys t;have k:=E4 (t:=t) (jr xs ys h).2;exact⟨k,IW.one rfl rfl rfl k⟩
 ·rename_i us vs;have h:=pN.1 h;have k:=jr us vs h.1;exact⟨aT k.1 h.2,fun _ y hy=>nK.1 h.2 y hy,k.1⟩
 ·exact IW.same h
theorem jr:∀(us vs:List AV),ky us vs=true→Les us vs∧LesC us vs:=fun us vs h=>by
 unfold ky at h;split at h
 ·exact⟨.nil,.nil⟩
 ·rename_i a us b vs;have h:=pN.1 h;have h1:=wq a b h.1;have h2:=jr us vs h.2;exact⟨.cons h1.1 h2.1,.cons h1.2 h2.2⟩
 ·grind
end
section
variable{P:Program}{G:eg}{f:FuncId}{a b:List AV}{u v:AV}
theorem aA.args(h:aA P G f a v)(hl:Les a b):aA P G f b v:=fun hp pl M w vs hg hr hv=>h hp pl M w vs hg hr (hv.le hl)
theorem aA.lessB(h:aA P G f a v)(hl:Bl u v=true):aA P G f a u:=h.less (wq _ _ hl).1
theorem Qj(a b:Nat):CL (.ofNat a) (.ofNat b)=.ofNat (Nat.max a b):=by
 unfold CL;cases h:au (.ofNat a) (.ofNat b)with
 |true=>
  have h:=an h;grind
 |false=>
  have h:=aF h;simp_all
theorem mN{xs ys:List AV}{i t:Nat}{r:List (Nat×Nat)}{x y:AV}{e c:Bool}(hx:jy xs i=some x)(hy:jy ys i=some y)(h:Jd t x y=some e)(k:xD xs ys r=some c):xD xs ys ((i,t)::r)=some (e&&c):=by
 simp only[xD,hx,hy,SG,h];cases e with
 |true=>exact k
 |false=>rfl
theorem As{xs ys:List AV}{i t:Nat}{r:List (Nat×Nat)}{x y:AV}{e:Bool}(hx:jy xs i=some x)(hy:jy ys i=some y)(h:Jd t x y=some e)(k:xD xs ys r=some true):xD xs ys ((i,t)::r)=some e:=by
 simp only[xD,hx,hy,SG,h];cases e with
 |true=>exact k
 |false=>rfl
theorem EP{d:Option TypeDesc}{n:Nat}{l:List (Nat×Nat)}{xs ys:List AV}{c:Bool}{H:AHeap}(hn:(Nat.beq xs.length n&&Nat.beq ys.length n)=true)(hl:xD xs ys l=some c):
  ba H (SP (pE .eql d (some true) (some n) (some l)) (some (.agg xs)) (some (.agg ys)))=some (.val (.bool c) H):=by
 grind[SP,pE,Xw,oO,ba]
theorem ym{d:Option TypeDesc}{n:Nat}{l:List (Nat×Nat)}{xs ys:List AV}{c:Bool}{H:AHeap}(hn:(Nat.beq xs.length n&&Nat.beq ys.length n)=true)(hl:xD xs ys l=some c):
  ba H (SP (pE .neq d (some true) (some n) (some l)) (some (.agg xs)) (some (.agg ys)))=some (.val (.bool (!c)) H):=by
 grind[SP,pE,Xw,oO,ba]
def ue:List (FuncId×List AV×AV)→Zo
 |[],_,_,_=>none
 |x::r,g,b,h=>match Nat.beq g x.1 with
  |true=>(match ky x.2.1 b with|true=>some (x.2.2,h)|false=>ue r g b h)
  |false=>ue r g b h
theorem Ak:∀{L:List (FuncId×List AV×AV)}{g:FuncId}{h h1:AHeap}{v1:AV},ue L g b h=some (v1,h1)→∃x,x∈L∧g=x.1∧ky x.2.1 b=true∧v1=x.2.2∧h1=h
 |[],_,_,_,_,e=>by grind[ue]
 | x::r,g,h,h1,v1,e=>by
  unfold ue at e;have next:ue r g b h=some (v1,h1)→∃y,y∈x::r∧g=y.1∧ky y.2.1 b=true∧v1=y.2.2∧h1=h:=fun e=>
   let⟨y,k,q⟩:=Ak e
   ⟨y,e9 _ k,q⟩
  grind[Nat.eq_of_beq_eq_true]
theorem GG{C:Cfg}{L:List (FuncId×List AV×AV)}(hC:C.hook=ue L)(hL:∀x,x∈L→aA C.P C.G x.1 x.2.1 x.2.2):JL C:=fun g b hp v1 h1 e pl M w vs hg hr hv=>by
 rw[hC]at e;obtain⟨x,hx,rfl,hl,rfl,rfl⟩:=Ak e;rcases hL x hx h1 pl M w vs hg hr (hv.le (jr _ _ hl).1)with⟨k1,k2⟩|⟨cv,w',v2,h2,k1,⟨rfl,rfl⟩,k3⟩
 ·refine .inl ⟨k1,fun cs=>?_⟩;obtain⟨en,w',fr,⟨cv,v2,h2,e1,⟨rfl,rfl⟩,k3⟩,r⟩:=k2 cs;grind
 ·exact .inr ⟨cv,w',k1,k3⟩
def YK(v:AV):Option (AV×AHeap)→Bool
 |some (u,_)=>Bl v u&&Nat.beq u.top 0
 |none=>false
theorem aA.closed{C:Cfg}{k:Nat}(hG:iF C.G)(ev:cq C.P C.G (fL C k))(ht:ax a=0)(h:YK v (fL C k f a AHeap.none)=true):aA C.P C.G f a v:=by
 cases hx:fL C k f a AHeap.none with
 |none=>rw[hx]at h;cases h
 |some r=>
  obtain⟨u,h1⟩:=r;rw[hx]at h;have h:=pN.1 h;exact(kL hG ht (pc h.2) ((aL.of ev hx).mono fun v1 _ e=>e.1)).lessB h.1
end
end Go.Ev
namespace Go.Ev
open Go
theorem aA.ls0{P:Program}{G:eg}{f:FuncId}{r:List AV}{v:AV}(h1:aA P G f (.nils::r) v)(h2:aA P G f (.ps [] false::r) v):aA P G f (.ls []::r) v:=fun h=>E7 (fun _ _ _ hv=>VRels.first hv fun _ hv=>hv.ls0) (h1 h) (h2 h)
theorem Rx{p:PId}{u:TUnit}(h:cV p u=true):ej p u∈aH p u:=by
 unfold ej;rw[h];have:=pT.2 (kS h);grind[fI]
theorem Sl:∀(u:TUnit),m6 u=(bp u).flatMap nY:=by
 refine TUnit.ind fun u ih=>?_
 rw[MJ,dq,List.flatMap_cons];congr 1;have key:∀(l:List TUnit),(∀k,k∈l→k∈u.kids)→kh l=(dm l).flatMap nY:=by
  intro l;induction l with
  |nil=>intro _;rw[Dm,fR];rfl
  |cons k r ihr=>grind[tX,bL]
 simp_all
theorem O5{p:PId}:∀(u:TUnit),cV p u=true→bz (ej p u)=p:=by
 refine TUnit.ind fun u ih h=>?_
 unfold ej;rw[h];simp only[cond_true];cases hh:fG p u with
 |true=>rw[qT hh];exact yc hh
 | false=>
  have key:∀(r:List TUnit),(∀k,k∈r→k∈u.kids)→cn p r≠[]→bz (gD (cn p r) ((cn p r).length -1))=p:=by
   intro r;induction r with
   |nil=>grind[kp]
   |cons k r ihr=>grind[nR,ej,iG]
  have k2:=key u.kids fun _ h=>h
  obtain⟨y,t,e⟩:=vS h;rw[gv,hh]at e ⊢;grind[gD]
theorem Lp{p:PId}:∀(u:TUnit),(∃x,x∈bp u∧bz x=p)→cV p u=true:=by
 refine TUnit.ind fun u ih ⟨x,hx,hp⟩=>?_
 cases hh:fG p u with
 |true=>grind[Ed]
 | false=>
  rw[dq]at hx;rcases fw.1 hx with rfl|hx
  ·simp_all[fG,mM]
  ·have key:∀(l:List TUnit),(∀k,k∈l→k∈u.kids)→x∈dm l→cn p l≠[]:=by
    intro l;induction l with
    |nil=>grind[fR]
    |cons k r ihr=>grind[bL,cV,nR,iG]
   grind[cV,gv]
theorem CH{α β:Type}{f:α→β}:∀{l:List α},(l.map f).Nodup→∀{x y:α},x∈l→y∈l→f x=f y→x=y
 | a::l,h,x,y,hx,hy,e=>by
  rw[eh,List.nodup_cons]at h;rcases fw.1 hx with h1|h1
  ·grind
  ·rcases fw.1 hy with h2|h2
   ·simp_all
   ·exact CH h.2 h1 h2 e
theorem DY{K V:Type}{kenc:K→AV}{f:V→AV}:∀(l:List (K×V))(i:Nat),(cZ kenc f l i).length=l.length
 |[],_=>rfl
 |(k,v)::r,i=>by rw[cZ,cP,DY r,cP]
theorem M5(m:List (PId×Bool)):Cf [] m=m:=rfl
theorem Ri{n:Nat}(h:0<n):al (Int.ofNat n) 0=false:=by grind[pK]
def DQ(p:PId):TUnit→Option TUnit:=fun u=>(bp u).find? (fG p)
theorem SM{p:PId}:∀(u:TUnit),(cV p u=true→DQ p u=some (ej p u))∧(cV p u=false→DQ p u=none):=by
 refine TUnit.ind fun u ih=>?_
 unfold DQ;rw[dq];cases hh:fG p u with
 |true=>
  rw[List.find?_cons_of_pos (by omega)];refine⟨fun h=>?_,fun h=>by grind[Ed]⟩;unfold ej;rw[h,qT hh];rfl
 | false=>
  rw[List.find?_cons_of_neg (by simp_all)];have key:∀(r:List TUnit),(∀k,k∈r→k∈u.kids)→(cn p r≠[]→(dm r).find? (fG p)=some (gD (cn p r) ((cn p r).length -1)))∧(cn p r=[]→(dm r).find? (fG p)=none):=by
   intro r;induction r with
   |nil=>grind[kp,fR]
   |cons k r ihr=>
    intro hm;have ik:=ih k (hm k (eT ..));have ir:=ihr fun z hz=>hm z (e9 _ hz)
    rw[bL,List.find?_append];cases hk:cV p k with
    |true=>grind[DQ,nR,kS,ej]
    |false=>grind[DQ,iG]
  have k2:=key u.kids fun _ h=>h
  refine⟨fun h=>?_,fun h=>?_⟩
  ·obtain⟨y,t,e⟩:=vS h;unfold ej;rw[h,gv,hh];rw[gv,hh]at e;grind[gD]
  ·have e:=Ay h;grind[gv]
theorem gg(p:PId)(u:TUnit):fG p u=true↔bz u=p:=⟨yc,fun h=>by simp_all[fG,mM]⟩
theorem IG{y x:TUnit}:∀(u:TUnit),y∈bp u→x∈bp y→x∈bp u:=by
 refine TUnit.ind fun u ih h hx=>?_
 rw[dq]at h ⊢;rcases fw.1 h with rfl|h
 ·grind[dq]
 ·refine e9 _ ?_;have key:∀(l:List TUnit),(∀k,k∈l→k∈u.kids)→y∈dm l→x∈dm l:=by
   intro l;induction l with
   |nil=>grind[fR]
   |cons k r ihr=>grind[bL]
  simp_all
theorem iL{y x u:TUnit}(h:y∈bp u)(hx:x∈bp y):x∈bp u:=IG u h hx
theorem PG{x:TUnit}:∀(u:TUnit),x∈bp u→nU x≤nU u:=by
 refine TUnit.ind fun u ih h=>?_
 rw[dq]at h;rcases fw.1 h with rfl|h
 ·omega
 ·have key:∀(l:List TUnit),(∀k,k∈l→k∈u.kids)→x∈dm l→nU x<nU u:=by
   intro l;induction l with
   |nil=>grind[fR]
   |cons k r ihr=>grind[bL,Nat.lt_of_le_of_lt,iz]
  grind
theorem dL{x u:TUnit}(h:x∈bp u):nU x≤nU u:=PG u h
section
variable{p:PId}{u w:TUnit}{r:List TUnit}
end
end Go.Ev
namespace Go.Ev
open Go
def kK(a b:PStep):Bool:=al a.kind b.kind&&dS a.label b.label
mutual
def Em:PItem→PItem→Bool
 |⟨k,a,t,w,n,u,o,ne,l,f,s,ac,im,d,e,bs⟩,v=>
  (al k v.kind&&(al w v.where_&&(al n v.nth_&&(al ac v.act&&(al im v.item&&al d v.day)))))
  &&((dS l v.label&&(dS f v.for_&&(dS e v.event&&(al s.kind v.start.kind&&(al s.day v.start.day&&dS s.event v.start.event)))))
  &&((cE kK a v.at_&&(cE kK t v.to&&(cE dS o v.old&&cE dS ne v.new)))
  &&(Ao u v.unit&&DJ bs v.by_)))
def DJ:List PItem→List PItem→Bool
 |[],[]=>true
 |k::r,[]=>false
 |k::r,x::s=>Em k x&&DJ r s
 |[],x::s=>false
end
theorem Rh:∀(l m:List PItem),DJ l m=cE Em l m:=by
 intro l;induction l with
 |nil=>intro m;cases m<;>(rw[DJ];rfl)
 |cons x l ih=>intro m;cases m with|nil=>rw[DJ];rfl|cons y m=>rw[DJ,ih];rfl
theorem UD(u v:PItem):Em u v=((al u.kind v.kind&&(al u.where_ v.where_&&(al u.nth_ v.nth_&&(al u.act v.act&&(al u.item v.item&&al u.day v.day)))))
  &&((dS u.label v.label&&(dS u.for_ v.for_&&(dS u.event v.event&&(al u.start.kind v.start.kind&&(al u.start.day v.start.day&&dS u.start.event v.start.event)))))
  &&((cE kK u.at_ v.at_&&(cE kK u.to v.to&&(cE dS u.old v.old&&cE dS u.new v.new)))
  &&(Ao u.unit v.unit&&cE Em u.by_ v.by_)))):=by
 cases u
 rw[Em,Rh];rfl
noncomputable def D9(s:aO):Bool:=aw (au (.ofNat s.length) 1)&&(aw (au 16 (.ofNat s.length))&&(aw (au (.ofNat (gD s 0).toNat) 97)&&(aw (au 122 (.ofNat (gD s 0).toNat))&&dS (Lib.trimS s [97,98,99,100,101,102,103,104,105,106,107,108,109,110,111,112,113,114,115,116,117,118,119,120,121,122,48,49,50,51,52,53,54,55,56,57,45]) [])))
def rp(n:Bool)(s:PStart):Bool:=bif al s.kind 0||al s.kind 2 then al s.day 0&&dS s.event []else bif al s.kind 1 then(aw (au s.day 0)&&aw (au 1048576 s.day))&&dS s.event []else bif al s.kind 3 then al s.day 0&&n else false
end Go.Ev
namespace Go.Ev
open Go
def bD(s:PStep)(u:TUnit):Bool:=al u.kind s.kind&&dS u.label s.label
def gc:List PStep→List TUnit→List TUnit
 |[],l=>l
 |s::r,l=>gc r (l.flatMap fun x=>x.kids.filter (bD s))
def dR(u:TUnit)(p:List PStep):List TUnit:=bif ki p then(match p with
 |[]=>[u]
 |s::r=>gc r (bif m8 s then[u]else(bp u).filter (bD s)))else[]
noncomputable def aG(u:TUnit)(p:List PStep):PId×Int:=match dR u p with
 |[]=>(bT,7)
 |[x]=>(bz x,0)
 |_=>(bT,8)
def iQ(p:PId)(u:TUnit):Bool:=aw (au (.ofNat (aH p u).length) 2)
noncomputable def Ik(p:PId)(u:TUnit):TUnit:=gD (aH p u) ((aH p u).length -2)
noncomputable def su(p:PId)(u:TUnit):PId:=bif iQ p u then bz (Ik p u)else bT
noncomputable def qa(p:PId)(u:TUnit):Int:=bif iQ p u then dt (cV p) (Ik p u).kids 0 else -1
def pF(p:PId)(u:TUnit):List PId:=(((aH p u).take ((aH p u).length -1)).map bz).reverse
structure PSpot where
 id:PId
 at_:Int
 deriving Inhabited
noncomputable def fU(s:PSpot):AV:=.agg [.int .i64 s.id.a,.int .i64 s.id.i,.int .i64 s.id.n,.int .i64 s.at_]
def dC:PSpot:=⟨bT,0⟩
noncomputable def ni(u:TUnit)(p:PId)(n:Int):PSpot×Int:=bif iQ p u then(⟨su p u,qa p u+n⟩,0)else(dC,9)
noncomputable def dz(w:Int)(u:TUnit)(p:PId):PSpot×Int:=bif al w 0 then(⟨p,0⟩,0)else bif al w 1 then(⟨p,.ofNat (ej p u).kids.length⟩,0)else bif al w 2 then ni u p 1 else ni u p 0
def ie(n:Int):Bool:=aw (au n 0)&&aw (au 3 n)
def cA(act item:Int):List aO→Nat→List PWord
 |[],_=>[]
 |s::r,n=>⟨s,act,item,.ofNat n⟩::cA act item r (n+1)
def b7(l:List PWord):List aO:=l.map fun w=>w.text
theorem fS(a i:Int):∀(l:List aO)(n:Nat),(cA a i l n).length=l.length
 |[],_=>rfl
 |s::r,n=>by rw[cA,cP,fS a i r,cP]
mutual
def cR(a i:Int):TUnit→Nat→Nat→TUnit
 |⟨_,_,_,k,l,h,ws,ks⟩,n,w=>⟨a,i,.ofNat (n+1),k,l,cA a i (b7 h) w,cA a i (b7 ws) (w+h.length),fW a i ks (n+1) (w+h.length+ws.length)⟩
def fW(a i:Int):List TUnit→Nat→Nat→List TUnit
 |[],_,_=>[]
 |k::r,n,w=>cR a i k n w::fW a i r (n+nU k) (w+(m6 k).length)
end
theorem Cd(a i:Int)(u:TUnit)(n w:Nat):cR a i u n w=⟨a,i,.ofNat (n+1),u.kind,u.label,cA a i (b7 u.head) w,cA a i (b7 u.words) (w+u.head.length),fW a i u.kids (n+1) (w+u.head.length+u.words.length)⟩:=by cases u;rw[cR];rfl
theorem Fi(a i:Int)(n w:Nat):fW a i [] n w=[]:=by rw[fW]
theorem Dt(a i:Int)(k:TUnit)(r:List TUnit)(n w:Nat):fW a i (k::r) n w=cR a i k n w::fW a i r (n+nU k) (w+(m6 k).length):=by rw[fW]
def vD(part:List aO):Nat→List aO→Nat→List Nat
 |0,_,_=>[]
 |f+1,l,i=>bif Nat.ble (i+part.length) l.length then(bif cE dS ((l.drop i).take part.length) part then i::vD part f l (i+part.length)else vD part f l (i+1))else[]
def uW(l part:List aO):List Nat:=bif part.isEmpty then[]else vD part (l.length+1) l 0
end Go.Ev
namespace Go.Ev
open Go
def o3(w:PWord):Bool:=aw (al w.act 0&&(al w.item 0&&al w.at_ 0))
def Dg(x:TUnit):Bool:=fG bT x&&(aw (x.head.any o3)&&aw (x.words.any o3))
def HP(u:TUnit):Bool:=kr u&&wY Dg u
def gG(w:PWord):PWord:=⟨w.text,0,0,0⟩
mutual
def cG:TUnit→TUnit
 |⟨_,_,_,k,l,h,w,ks⟩=>⟨0,0,0,k,l,h.map gG,w.map gG,tv ks⟩
def tv:List TUnit→List TUnit
 |[]=>[]
 |k::r=>cG k::tv r
end
theorem yO:∀(l:List TUnit),tv l=l.map cG
 |[]=>by rw[tv];rfl
 |k::r=>by rw[tv,yO r];rfl
theorem mU(u:TUnit):cG u=⟨0,0,0,u.kind,u.label,u.head.map gG,u.words.map gG,u.kids.map cG⟩:=by cases u;rw[cG,yO];rfl
theorem Q0{p:PId}{u:TUnit}(h:cV p u=false):iQ p u=false:=by unfold iQ;rw[Ay h];rfl
theorem Wy{p:PId}{u:TUnit}(h:iQ p u=false):su p u=bT:=by unfold su;simp_all
theorem PP{p:PId}{u:TUnit}(h:iQ p u=false):qa p u= -1:=by unfold qa;simp_all
theorem IH{p:PId}{u:TUnit}(h:iQ p u=true):su p u=bz (Ik p u):=by unfold su;simp_all
theorem II{p:PId}{u:TUnit}(h:iQ p u=true):qa p u=dt (cV p) (Ik p u).kids 0:=by unfold qa;simp_all
def ow(p:PId)(u:TUnit)(k:Nat):List PId:=((((aH p u).take ((aH p u).length -1)).drop k).map bz).reverse
theorem EO(p:PId)(u:TUnit):ow p u 0=pF p u:=rfl
theorem Dl(p:PId)(u:TUnit):ow p u ((aH p u).length -1)=[]:=by
 unfold ow;simp_all
theorem Bc(p:PId)(u:TUnit){k:Nat}(h:k+1<(aH p u).length):ow p u k=ow p u (k+1)++[bz (gD (aH p u) k)]:=by
 unfold ow;have h1:k<((aH p u).take ((aH p u).length -1)).length:=by grind
 rw[OH h1,eh,List.reverse_cons];grind[gD]
theorem Di(p:PId)(u:TUnit)(k:Nat):(ow p u k).length≤(aH p u).length:=by grind[ow]
def lZ(s:PStep)(u:TUnit):List TUnit:=(bp u).filter (bD s)
def dV(s:PStep)(l:List TUnit):List TUnit:=(dm l).filter (bD s)
theorem zd(s:PStep)(u:TUnit):lZ s u=(bif bD s u then[u]else[])++dV s u.kids:=by
 unfold lZ dV;rw[dq,List.filter_cons];grind
theorem mC(s:PStep):dV s []=[]:=by unfold dV;rw[fR];rfl
theorem gu(s:PStep)(k:TUnit)(r:List TUnit):dV s (k::r)=lZ s k++dV s r:=by grind[lZ,dV,bL]
theorem mw(s:PStep)(u:TUnit):(lZ s u).length≤nU u:=by grind[lZ,F1]
theorem sE:∀(l m:List TUnit),eQ (l++m)=eQ l+eQ m
 |[],m=>by rw[mX,rP,eE]
 |x::r,m=>by rw[yA,bh,bh,sE r m,Nat.add_assoc]
theorem zC(q:TUnit→Bool):∀(l:List TUnit),eQ (l.filter q)≤eQ l
 |[]=>by simp_all
 |x::r=>by
  rw[List.filter_cons,bh];have:=zC q r;cases q x with
  |true=>rw[if_pos rfl,bh];omega
  |false=>grind
theorem zB(q:TUnit→Bool):∀(l:List TUnit),eQ (l.flatMap fun x=>x.kids.filter q)≤eQ l
 |[]=>by simp_all
 |x::r=>by
  rw[List.flatMap_cons,sE,bh];have:=zB q r;grind[zC,i7]
theorem LV{n:Nat}:∀(l:List TUnit),(∀x,x∈l→nU x≤n)→eQ l≤n*l.length
 |[],_=>by simp_all[mX]
 |x::r,h=>by
  rw[bh,cP,Nat.mul_add,Nat.mul_one];have:=h x (eT ..);have:=LV r fun y hy=>h y (e9 _ hy)
  omega
theorem GV(s:PStep)(u:TUnit)(hp:∀x,x∈bp u→nU x≤nU u):eQ (lZ s u)≤nU u*nU u:=by
 have h1:=LV (n:=nU u) (lZ s u) fun x hx=>hp x (List.mem_filter.1 hx).1
 exact bR h1 (Nat.mul_le_mul_left _ (mw s u))
theorem Ib(l:List TUnit):gc [] l=l:=rfl
theorem Jx{u:TUnit}{p:List PStep}(h:ki p=false):dR u p=[]:=by unfold dR;simp_all
theorem G0{u:TUnit}(h:ki []=true):dR u []=[u]:=by unfold dR;simp_all
theorem G1{u:TUnit}{s:PStep}{r:List PStep}(h:ki (s::r)=true)(hb:m8 s=true):dR u (s::r)=gc r [u]:=by
 unfold dR;simp_all
theorem xK{u:TUnit}{s:PStep}{r:List PStep}(h:ki (s::r)=true)(hb:m8 s=false):dR u (s::r)=gc r (lZ s u):=by
 unfold dR;rw[h];show gc r (bif m8 s then[u]else(bp u).filter (bD s))=_
 rw[hb];rfl
def cp(s:PStep)(l:List TUnit):List TUnit:=l.flatMap fun x=>x.kids.filter (bD s)
section
variable{s:PStep}{l m r r1 X:List TUnit}{w w1:TUnit}{n N:Nat}{rs0:List PStep}{R at0:List TUnit}
theorem JQ:cp s []=[]:=rfl
theorem xQ:cp s (w::r)=w.kids.filter (bD s)++cp s r:=by grind[cp]
theorem Ic(rs:List PStep):gc (s::rs) l=gc rs (cp s l):=rfl
theorem GY:eQ (cp s l)≤eQ l:=zB _ l
theorem fA(h:R=gc (s::rs0) l∧eQ l≤N)(e:cp s []=cp s l):R=gc rs0 []∧eQ []≤N:=⟨by rw[h.1,Ic,←e];rfl,by simp_all[mX]⟩
theorem fB(h:R=gc (s::rs0) l∧eQ l≤N)(e:m++cp s []=cp s l):R=gc rs0 m∧eQ m≤N:=by grind[JQ,Ic,GY]
theorem gA(h:cp s (w1::r1)=X):w1.kids.filter (bD s)++cp s r1=X:=xQ.symm.trans h
theorem gB(h:n=m.length∧m++cp s (w1::r1)=X∧m.length+eQ (w1::r1)<N):n=m.length∧m++(w1.kids.filter (bD s)++cp s r1)=X∧m.length+(eQ w1.kids+eQ r1)<N:=⟨h.1,xQ (s:=s)▸h.2.1,by grind[bh,i7]⟩
theorem hA0(h:(w::r).filter (bD s)++cp s r1=X)(q:bD s w=false):r.filter (bD s)++cp s r1=X:=by simp_all
theorem hB0(h:n=m.length∧m++((w::r).filter (bD s)++cp s r1)=X∧m.length+(eQ (w::r)+eQ r1)<N)(q:bD s w=false):n=m.length∧m++(r.filter (bD s)++cp s r1)=X∧m.length+(eQ r+eQ r1)<N:=⟨h.1,by simp_all,by grind[bh]⟩
theorem hB1(h:n=m.length∧m++((w::r).filter (bD s)++cp s r1)=X∧m.length+(eQ (w::r)+eQ r1)<N)(q:bD s w=true):n+1=(m++[w]).length∧(m++[w])++(r.filter (bD s)++cp s r1)=X∧(m++[w]).length+(eQ r+eQ r1)<N:=⟨by simp_all,by simp_all,by grind[I3,bh]⟩
end
section
variable{p:PId}{u:TUnit}{i:Int}{l:List PId}
theorem Ob(hn:i=Int.ofNat (aH p u).length -2)(h0:au i 0=false):[bz (gD (aH p u) i.toNat)]=ow p u (i-1+1).toNat:=by
 have h0:=aF h0;simp only[aP]at hn;have e:(i-1+1).toNat=i.toNat:=by omega
 rw[e,Bc p u (k:=i.toNat) (by omega),show i.toNat+1=(aH p u).length -1 by omega,Dl,rP]
theorem H3(h:l=ow p u (i+1).toNat)(hi:i+2≤(aH p u).length)(h0:au i 0=false):l++[bz (gD (aH p u) i.toNat)]=ow p u (i-1+1).toNat:=by
 have h0:=aF h0;grind[Bc]
theorem Sf(h:l=ow p u (i+1).toNat)(hi: -1≤i)(h0:au i 0=true):l=pF p u:=by
 have h0:=an h0;rw[h,show(i+1).toNat=0 by omega,EO]
theorem Se(hn:i=Int.ofNat (aH p u).length -2)(h0:au i 0=true):pF p u=[]:=by
 have h0:=an h0;simp only[aP]at hn;rw[←EO];have:(aH p u).length -1=0:=by omega
 grind[Dl]
end
theorem K5{s:PStep}{l m:List TUnit}(h:dV s l=m)(hm:m≠[]):l≠[]:=by grind[mC]
theorem V9(l:List TUnit){z:AV}(hz:z.top=0):ax (l.map aV++[z])=0:=jP.2 fun x hx=>by grind[iZ]
theorem oG{l x r:List TUnit}{w:TUnit}{j:Nat}(h1:l.drop j=x)(h2:x=w::r):nU w+eQ r≤eQ l:=by
 have e:l=l.take j++(w::r):=by grind[List.take_append_drop]
 grind[sE,bh]
end Go.Ev
namespace Go.Ev
open Go
def qj(l:List aO)(n:Int):Bool:=qk l&&aw (au (.ofNat l.length) n)
def BI(n:Int):Bool:=aw (au n 0)&&aw (au 256 n)
theorem Jz{u:TUnit}(p:List PStep)(h:nU u≤2^11):(dR u p).length≤2^22:=by
 have key:∀(rs:List PStep)(l:List TUnit),eQ (gc rs l)≤eQ l:=by
  intro rs;induction rs with
  |nil=>intro l;exact ar _
  |cons s r ih=>grind[Ic,GY]
 unfold dR;cases ki p with
 |false=>simp_all
 | true=>
  simp only[cond_true];cases p with
  |nil=>simp_all
  | cons s r=>
   simp only[];refine bR (yq _) (bR (key r _) ?_);cases m8 s with
   |true=>grind[bh,mX]
   |false=>
    simp only[cond_false];have h1:=GV s u fun x hx=>dL hx
    have h2:nU u*nU u≤2^11*2^11:=Nat.mul_le_mul h h;exact bR h1 h2
theorem G9{u:TUnit}{p:List PStep}(h:dR u p=[]):aG u p=(bT,7):=by grind[aG]
theorem G8{u x:TUnit}{p:List PStep}(h:dR u p=[x]):aG u p=(bz x,0):=by grind[aG]
theorem G7{u x y:TUnit}{r:List TUnit}{p:List PStep}(h:dR u p=x::y::r):aG u p=(bT,8):=by grind[aG]
def xf(own:PId)(i:Int)(ok:Bool)(n:Int):PSpot×Int:=bif ok then(⟨own,i+n⟩,0)else(dC,9)
def Cn(e:Int)(sp:PSpot)(e2:Int):PSpot×Int:=bif al e 0 then(bif al e2 0 then(sp,0)else(dC,e2))else(dC,e)
def nI(p q own:PId)(at_:Int)(ok c bs:Bool)(sp:PSpot)(e:Int):PSpot×Int:=
 bif aw ok||((aw (bg q p)&&c)||(bg q p&&aw bs))then(dC,9)
 else bif bg q p then(⟨own,at_⟩,0)
 else bif al e 0&&(bg sp.id own&&au at_ sp.at_)then(⟨sp.id,sp.at_-1⟩,e)else(sp,e)
end Go.Ev
