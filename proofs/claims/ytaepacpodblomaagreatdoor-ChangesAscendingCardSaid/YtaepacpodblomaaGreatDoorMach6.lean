/- An abstract machine for runs of the program, proved sound against the model: part 6. No conditions. -/
import Derived.Test.YtaepacpodblomaaGreatDoorMach5
import Derived.Shelf.SortM.Plain
import Derived.Shelf.SortM.SortNone
import Derived.Shelf.SlSortCmp.NoneTotal
import Derived.Shelf.SlicesG.CompactI
import Derived.Lib.QuietBelow
import GoSem.ClaimJoined
import Derived.Calls
import Derived.RunT
import Derived.Below
import Derived.Shelf.Strings.FuncGrows
import Derived.Laws.RangeAny
import Derived.Lib.Join
import Derived.Lib.Repeat
import Derived.Lib.SlTrimSet
namespace Go.Ev
open Go Go.Sort Go.Proofs
section
variable{P:Program}{G:eC}{pl:Pl}{M:dt}{h:AHeap}{w w':World}
theorem s5(hr:cD pl M h w){id:Nat}{p:Place}{sz:Nat}{op:Bool}{ep:Nat}{xs xs':List AV}{c c':Array Value}{t:TypeId}(hp:pl id=some p)(hg:h.get id=some (.row sz op ep xs))
  (hb:w.heap[p.blk]?=some (.cells c t (0,0)))(hw:w'.heap[p.blk]?=some (.cells c' t (0,0)))(hcs:c'.size=c.size)(hlen:xs'.length=xs.length)(hel:∀x,x∈xs'→x.cells.length=sz∧Sc x)
  (hcell:∀i x j y,xs'[i]?=some x→x.cells[j]?=some y→VRel pl M y (c'.getD (i*sz+j) undef))(hs:WSame w w')(hsz:w.heap.size≤w'.heap.size)(hk:∀b,b<w.heap.size→b≠p.blk→w'.heap[b]?=w.heap[b]?):
  cD pl M (h.put id (.row sz op ep xs')) w'∧cS h pl M w (h.put id (.row sz op ep xs')) pl M w':=by
 have ho:=hr.obj id p _ hp hg;rw[hb]at ho;simp only[bp]at ho;obtain⟨h1,h2,h3,h4,h5,h6,h7,h8⟩:=ho;have e:=ye (pl:=pl) hp;have:=cD.change (p':=p) (o':=.row sz op ep xs') hr hp hg (.inl rfl) hs hsz hk (.inl rfl) (wQ.1 hw).1 (by
  rw[e,hw];simp only[bp];refine⟨h1,h2,by omega,by omega,trivial,h6,fun e=>by simp_all,⟨?_,hel,fun i x j y q1 q2=>?_⟩⟩
  ·grind[cases InMem]
  simp_all)
 simp_all
variable{β:Type}[Inhabited β]
theorem qh{enc:β→Value}{blk off n:Nat}{d:Array β}{os:Array Obj}{c:Array Value}{t:TypeId}{fr:Nat×Nat}(hb:w.heap[blk]?=some (.cells c t fr)):
  (grow (putRow enc (Sort.ahead w n) blk off d) os).heap[blk]?=some (.cells (putCells enc off d c) t fr):=by
 grind[grow,putRow,mapBlock,Sort.ahead,onCells]
theorem kK{enc:β→Value}{blk off n:Nat}{d:Array β}{os:Array Obj}{b:Nat}(hb:b<w.heap.size)(hne:b≠blk):
  (grow (putRow enc (Sort.ahead w n) blk off d) os).heap[b]?=w.heap[b]?:=by
 simp only[grow,putRow,mapBlock,Sort.ahead];grind
theorem nr{enc:β→Value}{blk off n:Nat}{d:Array β}{os:Array Obj}:WSame w (grow (putRow enc (Sort.ahead w n) blk off d) os):=⟨rfl,rfl,rfl,Nat.le_add_right _ _⟩
theorem Ba{enc:β→Value}{blk off n:Nat}{d:Array β}{os:Array Obj}:w.heap.size≤(grow (putRow enc (Sort.ahead w n) blk off d) os).heap.size:=by simp_all
theorem ni{enc:β→Value}{d:Array β}{c:Array Value}{k:Nat}(hk:k<d.size)(hc:k<c.size):(putCells enc 0 d c).getD k undef=enc d[k]!:=by simp_all[putCells]
theorem pS(hr:cD pl M h w){id ep len sz:Nat}{op:Bool}{cap:Option Nat}{xs:List AV}{x:Value}(hv:VRel pl M (.slice id ep 0 len cap) x)(hg:h.get id=some (.row sz op ep xs))(hl:0<len):
  ∃p c t cap',pl id=some p∧w.heap[p.blk]?=some (.cells c t (0,0))∧x=.slice (some ⟨p.blk,0,none⟩) len cap'∧InMem pl M c 0 sz xs∧0<sz∧p.blk<w.heap.size:=by
 cases hv with
 | slice hp he hle hk ha=>
  rename_i cap' a p;have ho:=hr.obj id p _ hp hg;cases hb:w.heap[p.blk]? with
  |none=>grind[bp]
  |some ob=>
   rw[hb]at ho;cases ob<;>simp only[bp]at ho
   rename_i c t fr;obtain⟨h1,h2,h3,h4,h5,h6,h7,h8⟩:=ho;subst h5;obtain⟨k1,_⟩:=ha (by omega);have k2:a=⟨p.blk,0,none⟩:=by grind
   exact⟨p,c,t,_,hp,hb,by rw[k2],h8,h6,(wQ.1 hb).1⟩
def bc(zs:List Int):List Int:=zs.mergeSort fun x y=>decide (x≤y)
theorem je(zs:List Int):(bc zs).Perm zs:=List.mergeSort_perm ..
theorem ou(zs:List Int):(bc zs).Pairwise (fun a b=>a≤b):=by
 have:=List.pairwise_mergeSort (le:=fun x y:Int=>decide (x≤y)) (by grind) (by grind) zs;exact this.imp (by simp)
theorem Cr{c:Array Value}{sz:Nat}{xs:List AV}(hm:InMem pl M c 0 sz xs){i:Nat}{x:AV}(hx:xs[i]?=some x){j:Nat}(hj:j<sz):i*sz+j<c.size∧∃y,x.cells[j]?=some y∧VRel pl M y (c.getD (i*sz+j) undef):=by
 have h1:=hm.fit;have hi:=(gj.1 hx).1;have h2:=(hm.elem x (bg hx)).1;have h3:(i+1)*sz≤xs.length*sz:=eA _ hi;rw[jt]at h3;refine⟨by omega,x.cells[j],by simp_all,?_⟩;have:=hm.cell i x j _ hx (lh (by omega:j<x.cells.length));simp_all
theorem rL{f:FuncId}(hE:∀vs w,(callFunc f vs).run P w=.ok (.enter f vs) w)
  (hC:∀(blk off cap:Nat)(zs:List Int)(w:World),Holds (Value.int .i64) w blk off zs.toArray→blk<w.heap.size→zs.length<4611686018427387904→
   Calls P f #[.slice (some ⟨blk,off,none⟩) zs.length cap] w fun e w'=>e=.returned (.tuple #[])∧∃n os,w'=grow (putRow (Value.int .i64) (Sort.ahead w n) blk off (zs.mergeSort fun x y=>decide (x≤y)).toArray) os)
  {id ep:Nat}{op:Bool}{cap:Option Nat}(zs:List Int)(hg:h.get id=some (.row 1 op ep (zs.map aj)))(hz:0<zs.length)(hb:zs.length<4611686018427387904):
  aI P G f [.slice id ep 0 zs.length cap] h (fun v h'=>v=.tuple []∧h'=h.put id (.row 1 op ep ((bc zs).map aj))):=by
 intro pl M w vs hG hr hv;obtain⟨a,rfl,hv1⟩:=R3 hv;obtain⟨p,c,t,cap',hp,hbl,rfl,hm,_,hlt⟩:=pS hr hv1 hg hz;have hcell:∀j z,zs[j]?=some z→j<c.size∧c.getD j undef=.int .i64 z:=by
  intro j z hj;have hx:(zs.map aj)[j]?=some (aj z):=by simp_all
  obtain⟨q1,y,q2,q3⟩:=Cr hm hx (j:=0) (by omega);rw[Nat.mul_one,py]at q1 q3;simp[aj,AV.cells]at q2;subst q2;refine⟨q1,?_⟩;cases hq:c.getD j undef<;>rw[hq]at q3<;>cases q3
  rfl
 refine .inl ⟨hE _ _,Calls.mono (hC p.blk 0 cap' zs w (fun j hj=>?_) hlt hb) fun e w' ⟨he,n,os,hw⟩=>?_⟩
 ·have hj':j<zs.length:=by omega
  obtain⟨q1,q2⟩:=hcell j zs[j] (lh hj');rw[fw];refine⟨?_,?_⟩
  ·simp only[World.cell?,hbl];simp only[Option.isSome_none,gq,if_false];rw[ES q1];simp_all
  grind[World.frozen?]
 ·refine⟨.tuple #[],.tuple [],_,he,⟨rfl,rfl⟩,pl,M,qO,?_⟩;have hlen:(bc zs).length=zs.length:=(je zs).length_eq;have hw1:w'.heap[p.blk]?=some (.cells (putCells (Value.int .i64) 0 (bc zs).toArray c) t (0,0)):=by rw[hw];exact qh hbl
  obtain⟨r1,r2⟩:=s5 (w':=w') (xs':=(bc zs).map aj) hr hp hg hbl hw1 (by simp[putCells]) (by simp_all) (fun x hx=>by
    obtain⟨z,_,rfl⟩:=kw.1 hx;exact⟨rfl,fun y hy=>by simp[aj,AV.cells]at hy;subst hy;rfl⟩) (fun i x j y q1 q2=>by
    rw[pL]at q1;obtain⟨z,e1,rfl⟩:=ER.1 q1;have hi:=(gj.1 e1).1;cases j with
    |succ j=>grind[aj,AV.cells]
    |zero=>
     simp[aj,AV.cells]at q2;subst q2;rw[Nat.mul_one,py,ni (by omega) (hcell i zs[i] (lh (by omega))).1];have:(bc zs).toArray[i]! =z:=by simp_all
     rw[this];exact .int _ _) (by grind[nr]) (by simp_all) (fun b hb hne=>by grind[kK])
  exact⟨r1,r2,au _⟩
def an(zs:List Int):List Int:=Lib.compact zs
theorem xK(zs:List Int):(an zs).length≤zs.length:=by grind[an,Lib.compact,Lib.compactUpTo]
theorem oY{f:FuncId}(hE:∀vs w,(callFunc f vs).run P w=.ok (.enter f vs) w)
  (hC:∀(blk off cap:Nat)(zs:List Int)(w:World),Holds (Value.int .i64) w blk off zs.toArray→zs.length≤9223372036854775807→zs.length≤cap→
   Calls P f #[.slice (some ⟨blk,off,none⟩) zs.length cap] w fun e w'=>e=.returned (.slice (some ⟨blk,off,none⟩) (Lib.compact zs).length cap)∧∃q,w'=putRow (Value.int .i64) (Sort.ahead w q) blk off (Lib.compact zs++List.replicate (zs.length-(Lib.compact zs).length) 0).toArray)
  {id ep:Nat}{op:Bool}(zs:List Int)(hg:h.get id=some (.row 1 op ep (zs.map aj)))(hz:0<zs.length)(hb:zs.length<4611686018427387904):
  aI P G f [.slice id ep 0 zs.length none] h (fun v h'=>v=.slice id ep 0 (an zs).length none∧h'=h.put id (.row 1 op ep ((an zs++List.replicate (zs.length-(an zs).length) 0).map aj))):=by
 intro pl M w vs hG hr hv;obtain⟨a,rfl,hv1⟩:=R3 hv;obtain⟨p,c,t,cap',hp,hbl,rfl,hm,_,hlt⟩:=pS hr hv1 hg hz;have hcell:∀j z,zs[j]?=some z→j<c.size∧c.getD j undef=.int .i64 z:=by
  intro j z hj;have hx:(zs.map aj)[j]?=some (aj z):=by simp_all
  obtain⟨q1,y,q2,q3⟩:=Cr hm hx (j:=0) (by omega);rw[Nat.mul_one,py]at q1 q3;simp[aj,AV.cells]at q2;subst q2;refine⟨q1,?_⟩;cases hq:c.getD j undef<;>rw[hq]at q3<;>cases q3
  rfl
 have hle:=xK zs;have hcap:zs.length≤cap':=by grind[cases VRel]
 generalize hnew:an zs++List.replicate (zs.length-(an zs).length) 0=ns;have hnl:ns.length=zs.length:=by grind
 refine .inl ⟨hE _ _,Calls.mono (hC p.blk 0 cap' zs w (fun j hj=>?_) (by omega) hcap) fun e w' ⟨he,n,hw⟩=>?_⟩
 ·have hj':j<zs.length:=by omega
  obtain⟨q1,q2⟩:=hcell j zs[j] (lh hj');rw[fw];refine⟨?_,?_⟩
  ·simp only[World.cell?,hbl];simp only[Option.isSome_none,gq,if_false];rw[ES q1];simp_all
  grind[World.frozen?]
 ·have hw2:w'=grow (putRow (Value.int .i64) (Sort.ahead w n) p.blk 0 ns.toArray) #[]:=by rw[hw,grow_empty];congr 2
  have hrel:VRel pl M (.slice id ep 0 (an zs).length none) (.slice (some ⟨p.blk,0,none⟩) (an zs).length cap'):=by
   cases hv1 with
   |slice hp he hl hk ha=>
    refine .slice hp he (by omega) hk fun e=>?_
    grind
  refine⟨_,_,_,he,⟨rfl,rfl⟩,pl,M,hrel,?_⟩;have hw1:w'.heap[p.blk]?=some (.cells (putCells (Value.int .i64) 0 ns.toArray c) t (0,0)):=by grind[qh]
  obtain⟨r1,r2⟩:=s5 (w':=w') (xs':=ns.map aj) hr hp hg hbl hw1 (by simp[putCells]) (by simp_all) (fun x hx=>by
    obtain⟨z,_,rfl⟩:=kw.1 hx;exact⟨rfl,fun y hy=>by simp[aj,AV.cells]at hy;subst hy;rfl⟩) (fun i x j y q1 q2=>by
    rw[pL]at q1;obtain⟨z,e1,rfl⟩:=ER.1 q1;have hi:=(gj.1 e1).1;cases j with
    |succ j=>grind[aj,AV.cells]
    |zero=>
     simp[aj,AV.cells]at q2;subst q2;rw[Nat.mul_one,py,ni (by omega) (hcell i zs[i] (lh (by omega))).1];have:ns.toArray[i]! =z:=by simp_all
     rw[this];exact .int _ _) (by grind[nr]) (by simp_all) (fun b hb hne=>by grind[kK])
  exact⟨r1,r2,au _⟩
theorem Dk{f:FuncId}(hE:∀vs w,(callFunc f vs).run P w=.ok (.enter f vs) w)
  (hC:∀(p:Option Addr)(cap:Nat)(w:World),Calls P f #[.slice p 0 cap] w fun e w'=>e=.returned (.tuple #[])∧w'=w):bX P G f [.nils] (.tuple []):=by
 intro h pl M w vs hG hr hv;obtain⟨a,rfl,hv1⟩:=R3 hv;cases hv1
 exact .inl ⟨hE _ _,Calls.mono (hC none 0 w) fun e w' ⟨he,hw⟩=>⟨.tuple #[],.tuple [],h,he,⟨rfl,rfl⟩,pl,M,qO,by simp_all[StepF.refl]⟩⟩
theorem vZ{f:FuncId}{g:Fn}(hE:∀vs w,(callFunc f vs).run P w=.ok (.enter f vs) w)
  (hC:∀(p:Option Addr)(cap:Nat)(fv:Value)(w:World),Calls P f #[.slice p 0 cap,fv] w fun e w'=>e=.returned (.tuple #[])∧w'=w):bX P G f [.nils,.func g [] []] (.tuple []):=by
 intro h pl M w vs hG hr hv;obtain⟨a,b,rfl,hv1,hv2⟩:=AH hv;cases hv1
 exact .inl ⟨hE _ _,Calls.mono (hC none 0 b w) fun e w' ⟨he,hw⟩=>⟨.tuple #[],.tuple [],h,he,⟨rfl,rfl⟩,pl,M,qO,by simp_all[StepF.refl]⟩⟩
def DD{α:Type}(cmp:α→α→Int)(a b:α):Bool:=decide (cmp a b<0)
theorem BV{f g:FuncId}{sz:Nat}(hGT:iP G)(hE:∀vs w,(callFunc f vs).run P w=.ok (.enter f vs) w)(hg2:∀args w,(callFunc g args).run P w=.ok (.enter g args) w)
  (hC:∀(m:Nat)(enc:Fin (m+1)→List Value)(cf:Fin (m+1)→Fin (m+1)→Int)(blk off cap:Nat)(d:Array (Fin (m+1)))(w:World),(∀x,(enc x).length=sz)→(∀x,∀v∈enc x,v.oneCell'=true)→SWO (ltOf cf)→
   CmpLays P g #[] enc sz cf blk off d.size w→HoldsK enc sz w blk off d→blk<w.heap.size→d.size<4611686018427387904→
   Calls P f #[.slice (some ⟨blk,off,none⟩) d.size cap,.func (.func g) #[] #[]] w fun e w'=>e=.returned (.tuple #[])∧∃d' n os,PermIn 0 d.size d d'∧SortedIn (ltOf cf) 0 d.size d'∧w'=sortWorldK enc sz w blk off n d' os)
  {α:Type}[Inhabited α](enc:α→AV)(cmp:α→α→Int)(hO:SWO (DD cmp))(hag:∀a,∃cs,enc a=.agg cs)(htop:∀a,(enc a).top=0)
  (l:List α)(hcmp:∀a,a∈l→∀b,b∈l→bX P G g [enc a,enc b] (.int .i64 (cmp a b)))
  {oid ep:Nat}{op:Bool}{cap:Option Nat}(hg:h.get oid=some (.row sz op ep (l.map enc)))(hz:0<l.length)(hb:l.length<4611686018427387904):
  aI P G f [.slice oid ep 0 l.length cap,.func (.func g) [] []] h (fun v h'=>∃l':List α,(l'.Perm l∧l'.Pairwise fun a b=>DD cmp b a=false)∧v=.tuple []∧h'=h.put oid (.row sz op ep (l'.map enc))):=by
 intro pl M w vs hG hr hv;obtain⟨a,fv,rfl,hv1,hv2⟩:=AH hv;have e2:=yT hv2;subst e2;obtain⟨p,c,t,cap',hp,hbl,rfl,hm,hsz0,hlt⟩:=pS hr hv1 hg hz;obtain⟨m,hm1⟩:∃m,l.length=m+1:=⟨l.length-1,by omega⟩
 have hfit:=hm.fit;rw[cX,fw,hm1]at hfit;have helem:∀i:Fin (m+1),(l.map enc)[i.1]?=some (enc l[i.1]!):=fun i=>by
  have:=i.2;rw[pL,lh (by omega),getElem!_pos l i.1 (by omega)];rfl
 have hmul:∀i:Fin (m+1),i.1*sz+sz≤(m+1)*sz:=fun i=>by have:=eA sz (Nat.succ_le_of_lt i.2);rwa[pM]at this
 generalize hcof:(fun i:Fin (m+1)=>(List.range sz).map fun j=>c.getD (i.1*sz+j) undef)=cellsOf;have cl:∀i,(cellsOf i).length=sz:=fun i=>by rw[←hcof];simp
 have cg:∀i j,j<sz→(cellsOf i)[j]?=some (c.getD (i.1*sz+j) undef):=fun i j hj=>by rw[←hcof];simp[hj]
 generalize hd:(Array.ofFn (n:=m+1) id)=d;have hds:d.size=m+1:=by rw[←hd];simp
 have hdg:∀j (hj:j<m+1),d[j]! =⟨j,hj⟩:=fun j hj=>by rw[getElem!_pos d j (by omega)];subst hd;simp
 have hflat:∀(dk:Array (Fin (m+1))),dk.size=m+1→∀i j,i<m+1→j<sz→(flatK cellsOf sz dk)[i*sz+j]! =c.getD ((dk[i]!).1*sz+j) undef:=fun dk hdk i j hi hj=>by
  have h1:i*sz+j<dk.size*sz:=by have:=eA sz (Nat.succ_le_of_lt hi);rw[pM]at this;rw[hdk];omega
  rw[get_flatK cellsOf sz dk _ h1];have h2:(i*sz+j)/sz=i:=by rw[Nat.mul_comm,Nat.mul_add_div hsz0,Nat.div_eq_of_lt hj,py]
  have h3:(i*sz+j)%sz=j:=by rw[Nat.mul_comm,Nat.mul_add_mod,Nat.mod_eq_of_lt hj]
  rw[h2,h3,getElem!_pos _ j (by rw[cl];exact hj)];have:=cg (dk[i]!) j hj;rw[lh (by rw[cl];exact hj)]at this;simpa using this
 have hH:HoldsK cellsOf sz w p.blk 0 d:=by
  intro k hk;rw[size_flatK,hds]at hk;have hi:k/sz<m+1:=Nat.div_lt_of_lt_mul (by rw[Nat.mul_comm];exact hk);have hj:k%sz<sz:=Nat.mod_lt _ hsz0;have hk2:k/sz*sz+k%sz=k:=by rw[Nat.mul_comm];exact Nat.div_add_mod k sz
  have:=hflat d hds (k/sz) (k%sz) hi hj;rw[hdg _ hi,hk2]at this;rw[this,fw];have hkc:k<c.size:=by omega
  refine⟨?_,by simp[World.frozen?,hbl]⟩;simp only[World.cell?,hbl];simp only[Option.isSome_none,gq,if_false];rw[ES hkc];simp[Array.getD,hkc]
 have hrelE:∀(i:Fin (m+1)) cs,enc l[i.1]! =.agg cs→cs.length=sz∧(∀y,y∈cs→cF y=true)∧∀(j:Nat)(y:AV),cs[j]?=some y→VRel pl M y (c.getD (i.1*sz+j) undef):=by
  intro i cs hcs;have h1:=hm.elem _ (bg (helem i));rw[hcs]at h1;refine⟨h1.1,h1.2,fun j y hj=>?_⟩;have:=hm.cell i.1 _ j y (helem i) (by rw[hcs];exact hj);rwa[fw]at this
 have hone:∀i,∀v∈cellsOf i,v.oneCell'=true:=by
  intro i v hvm;obtain⟨j,hj,e⟩:=EP hvm;rw[cl]at hj;have h1:=cg i j hj;rw[lh (by rw[cl];exact hj),e]at h1;obtain⟨cs,hcs⟩:=hag l[i.1]!;obtain⟨k1,k2,k3⟩:=hrelE i cs hcs;have:=k3 j cs[j] (lh (by omega));cases h1
  exact this.one (k2 _ (DK _))
 have hmemL:∀i:Fin (m+1),l[i.1]!∈l:=fun i=>by
  have:=i.2;rw[getElem!_pos l i.1 (by omega)];exact DK _
 have hlays:CmpLays P g #[] cellsOf sz (fun i j=>cmp l[i.1]! l[j.1]!) p.blk 0 d.size w:=by
  intro n os dk hdk x y;generalize hW:sortWorldK cellsOf sz w p.blk 0 n dk os=W;have hWo:∀b,b<w.heap.size→b≠p.blk→W.heap[b]?=w.heap[b]?:=fun b h1 h2=>by rw[←hW];exact kK h1 h2
  have hrW:cD (fun _=>none) M AHeap.none W:=qK (pl:=fun _=>none) (n:=0) (g:=AHeap.none.get) ⟨fun _ _ h=>by simp at h,fun _ _ _ h=>by simp at h,fun _ _ h=>by simp at h,fun _ _ _ _ h=>by simp at h,fun b c' hM=>by
   obtain⟨t',fr,q⟩:=hr.imm b c' hM;refine⟨t',fr,?_⟩;rw[hWo b (hr.memLt hM) (fun e=>by have:=hr.sep oid p hp;rw[←e,hM]at this;cases this)];exact q,fun _ _ h=>by simp at h⟩
  have hrel:∀i:Fin (m+1),VRel (fun _=>none) M (enc l[i.1]!) (.agg (cellsOf i).toArray):=by
   intro i;obtain⟨cs,hcs⟩:=hag l[i.1]!;obtain⟨k1,k2,k3⟩:=hrelE i cs hcs;have ht:=htop l[i.1]!;rw[hcs]at ht ⊢;refine .agg (by simp[cl,k1]) k2 fun j y hj=>?_
   have hj':j<sz:=by rw[←k1];exact(gj.1 hj).1
   have e:(cellsOf i).toArray.getD j undef=c.getD (i.1*sz+j) undef:=by
    have:=cg i j hj';rw[gn,nI,this];rfl
   rw[e];exact(k3 j y hj).none (jP.1 ht y (bg hj))
  have hc:=hcmp _ (hmemL x) _ (hmemL y) AHeap.none (fun _=>none) M W #[.agg (cellsOf x).toArray,.agg (cellsOf y).toArray] (hG.none hGT) hrW ⟨rfl,fun j z hj=>by
   match j,hj with
   |0,hj=>cases hj;exact hrel x
   |1,hj=>cases hj;exact hrel y⟩
  rcases hc with⟨h1,h2⟩|⟨cv,w',v,h',h1,h2,h3⟩
  ·refine Calls.mono h2 fun e w' ⟨cv,v,h',k1,k2,pl',M',k3,k4,k5,k6⟩=>?_
   obtain⟨k2,_⟩:=k2;subst k2;cases k3
   refine⟨k1,?_⟩;obtain⟨q,hq⟩:=regrown_of_below (w:=W) (w':=w') ⟨k5.os,k5.tape,k5.out,k5.size,fun b hb=>k5.kept b hb fun id p h=>by simp at h⟩;refine⟨w'.drawn-W.drawn,q.os,?_⟩;have hd1:w'.drawn=q.d:=by rw[hq];rfl
   have hd2:=k5.drawn;have:redrawn W q.d=W.drewN (w'.drawn-W.drawn):=by
    show({W with drawn:=q.d}:World)={W with drawn:=W.drawn+(w'.drawn-W.drawn)}
    congr 1;omega
   rw[←this];exact hq
  ·rw[hg2]at h1;cases h1
 refine .inl ⟨hE _ _,?_⟩;have hcall:=hC m cellsOf (fun i j=>cmp l[i.1]! l[j.1]!) p.blk 0 cap' d w cl hone ⟨fun x=>hO.irrefl _,fun x y z=>hO.trans _ _ _,fun x y z=>hO.ntrans _ _ _⟩ hlays hH hlt (by omega);rw[show d.size=l.length by omega]at hcall;refine Calls.mono hcall fun e w' ⟨he,d',n,os,hP,hS,hw⟩=>?_
 obtain⟨hp1,_,hp3⟩:=hP;have hd's:d'.size=m+1:=by omega
 have hperm:d'.toList.Perm d.toList:=by
  have e1:d'.extract 0 l.length=d':=by rw[show l.length=d'.size by omega];exact Array.extract_size
  have e2:d.extract 0 l.length=d:=by rw[show l.length=d.size by omega];exact Array.extract_size
  rwa[e1,e2]at hp3
 have hdl:d.toList.map (fun i=>l[i.1]!)=l:=by
  apply List.ext_getElem?;intro i;by_cases hi:i<l.length
  ·rw[pL,Array.getElem?_toList,ES (by omega),lh hi];have:=hdg i (by omega);rw[getElem!_pos d i (by omega)]at this;rw[this];show some (l[i]!)=some l[i]
   rw[getElem!_pos l i hi]
  ·rw[List.getElem?_eq_none (by simp;omega),List.getElem?_eq_none (by omega)]
 have hl':(d'.toList.map (fun i=>l[i.1]!)).length=l.length:=by simp;omega
 refine⟨.tuple #[],.tuple [],_,he,⟨d'.toList.map (fun i=>l[i.1]!),⟨?_,?_⟩,rfl,rfl⟩,pl,M,qO,?_⟩
 ·have:=hperm.map (fun i=>l[i.1]!);rwa[hdl]at this
 ·rw[EO];intro i j hi hj hij;have hi':i<d'.size:=by simpa using hi
  have hj':j<d'.size:=by simpa using hj
  have:=hS i j (bG _) hij (by omega);rw[getElem!_pos d' i hi',getElem!_pos d' j hj']at this;simpa[DD,ltOf]using this
 ·have hw1:w'.heap[p.blk]?=some (.cells (putCells id 0 (flatK cellsOf sz d') c) t (0,0)):=by rw[hw];exact qh hbl
  obtain⟨r1,r2⟩:=s5 (w':=w') (xs':=(d'.toList.map (fun i=>l[i.1]!)).map enc) hr hp hg hbl hw1 (by simp[putCells]) (by simp;omega) (fun x hx=>by
    obtain⟨z,h1,rfl⟩:=kw.1 hx;obtain⟨i,_,rfl⟩:=kw.1 h1;exact hm.elem _ (bg (helem i))) (fun i x j y q1 q2=>by
    rw[pL,pL,Array.getElem?_toList]at q1;obtain⟨z,e1,rfl⟩:=ER.1 q1;obtain⟨k,e2,rfl⟩:=ER.1 e1;have hi:i<d'.size:=(wQ.1 e2).1;obtain⟨cs,hcs⟩:=hag l[k.1]!;obtain⟨k1,k2,k3⟩:=hrelE k cs hcs;rw[hcs]at q2;have hj:j<sz:=by rw[←k1];exact(gj.1 q2).1
    have hb1:i*sz+j<(m+1)*sz:=by have:=eA sz (Nat.succ_le_of_lt (show i<m+1 by omega));rw[pM]at this;omega
    rw[ni (by rw[size_flatK,hd's];exact hb1) (by omega)];have:=hflat d' hd's i j (by omega) hj;have e3:d'[i]! =k:=by rw[getElem!_pos d' i hi];rw[ES hi]at e2;simpa using e2
    rw[e3]at this;show VRel pl M y (flatK cellsOf sz d')[i*sz+j]!
    rw[this];exact k3 j y q2) (by rw[hw];exact nr) (by rw[hw];exact Ba) (fun b hb hne=>by rw[hw];exact kK hb hne)
  exact⟨r1,r2,au _⟩
end
end Go.Ev
namespace Go.Ev
open Go
theorem yK(a b:Int):ap (jj a b) 0=ap a b:=by
 unfold jj;cases h:ap a b with
 |true=>rfl
 |false=>cases h2:ap b a<;>rfl
noncomputable def lF(l:List PSpan)(d:Int):Nat:=(l.takeWhile fun s=>ap s.from_ d).length
theorem yJ(l:List PSpan)(d:Int):lF l d≤l.length:=by
 induction l with
 |nil=>simp[lF]
 |cons a r ih=>grind[lF,List.takeWhile_cons]
def sZ(l:List PSpan):Prop:=l.Pairwise fun a b=>a.from_≤b.from_
theorem uo{d:Int}:∀{l:List PSpan},sZ l→∀k,k<l.length→(ap (gD l k).from_ d=true↔k<lF l d)
 |[],_,k,h=>by simp_all
 | a::r,hs,k,h=>by
  obtain⟨h1,h2⟩:=ic.1 hs;unfold lF;rw[List.takeWhile_cons];cases q:ap a.from_ d with
  | true=>
   simp only[if_true,cO];cases k with
   |zero=>grind[gD]
   |succ k=>
    have:=uo (d:=d) h2 k (by simp_all);rw[show gD (a::r) (k+1)=gD r k from rfl,this];grind[lF]
  |false=>
   simp only[gq,if_false,gm,nF,iff_false,Bool.not_eq_true];have hd:=aE q;grind[ge,gr]
noncomputable def Gb(l:List PSpan)(d:Int):Bool:=ap (Int.ofNat (lF l d)) (Int.ofNat l.length)&&ah (jj (gD l (lF l d)).from_ d) 0
theorem Oz{l:List PSpan}(h:l.Pairwise fun a b=>a.to<b.from_)(h2:∀s,s∈l→s.from_<s.to):sZ l:=by
 induction l with
 |nil=>exact .nil
 |cons a r ih=>
  obtain⟨h3,h4⟩:=ic.1 h;refine ic.2 ⟨fun b hb=>?_,ih h4 fun s hs=>h2 s (eN _ hs)⟩;grind
structure NrmS(l:List PSpan):Prop where
 gap:l.Pairwise fun a b=>a.to<b.from_
 ok:∀s,s∈l→0≤s.from_∧s.from_<s.to∧s.to≤1048577
theorem NrmS.sort{l:List PSpan}(h:NrmS l):sZ l:=Oz h.gap fun s hs=>(h.ok s hs).2.1
theorem HT:∀{l:List PSpan}{b:Int},l.Pairwise (fun a b=>a.to<b.from_)→(∀s,s∈l→b≤s.from_∧s.from_<s.to∧s.to≤1048577)→b≤1048577→Int.ofNat l.length≤1048577-b
 |[],b,_,_,hb=>by simp_all
 |a::r,b,h,h2,hb=>by
  obtain⟨h3,h4⟩:=ic.1 h;have h5:=h2 a (eu ..);have:=HT (l:=r) (b:=b+1) h4 (fun s hs=>by grind) (by omega);grind
theorem NrmS.len{l:List PSpan}(h:NrmS l):l.length≤1048577:=by
 have:=HT (b:=0) h.gap h.ok (by omega);grind
noncomputable def gI(l:List PSpan)(d:Int):Bool:=Gb l d||(ap 0 (Int.ofNat (lF l d))&&ap d (gD l (lF l d-1)).to)
theorem P7{l:List PSpan}(h:NrmS l){d:Int}(hd:d<0∨1048576<d):gI l d=false:=by
 have hs:=h.sort;have hi:=uo (d:=d) hs;have hc:=yJ l d;unfold gI Gb;rcases hd with hd|hd
 ·have h0:lF l d=0:=by
   rcases Nat.eq_zero_or_pos (lF l d)with e|e
   ·omega
   ·have h1:=(hi 0 (by omega)).2 e;have:=am h1;grind[ge,cases NrmS]
  rw[h0];have e2:ap 0 (Int.ofNat 0)=false:=by rfl
  rw[e2,yx,Bool.or_false];cases hl:ap (Int.ofNat 0) (Int.ofNat l.length)with
  |false=>rfl
  | true=>
   have hlt:=am hl;simp only[aP]at hlt;have:=h.ok (gD l 0) (ge (by omega));have e3:ah (jj (gD l 0).from_ d) 0=false:=by
    unfold jj;rw[gr (by omega),jF (by omega)];rfl
   simp_all
 ·have h0:lF l d=l.length:=by
   rcases fZ (lF l d) l.length with e|e
   all_goals grind[ge,jF,cases NrmS]
  rw[h0,gr (by omega),yx,Bool.false_or];cases hl:ap 0 (Int.ofNat l.length)with
  |false=>rfl
  |true=>
   have hlt:=am hl;simp only[aP]at hlt;have:=h.ok (gD l (l.length-1)) (ge (by omega));rw[gr (by omega)];rfl
theorem Du(a b:Int):Cc a b=max a b:=by
 unfold Cc;cases h:ap a b with
 |true=>have:=am h;grind
 |false=>have:=aE h;grind
theorem II(a b:Int):NK a b=min a b:=by
 unfold NK;cases h:ap b a with
 |true=>have:=am h;grind
 |false=>have:=aE h;grind
noncomputable abbrev Vn(s:PSpan):PSpan:=⟨Cc s.from_ 0,NK s.to 1048577⟩
noncomputable abbrev Xp(s:PSpan):Bool:=ap (Cc s.from_ 0) (NK s.to 1048577)
noncomputable def jk:List PSpan→List PSpan
 |[]=>[]
 |s::r=>match Xp s with|true=>Vn s::jk r|false=>jk r
theorem ut{s:PSpan}{r:List PSpan}(h:Xp s=true):jk (s::r)=Vn s::jk r:=by grind[jk]
theorem uA{s:PSpan}{r:List PSpan}(h:Xp s=false):jk (s::r)=jk r:=by grind[jk]
theorem C2:∀(l:List PSpan),(jk l).length≤l.length
 |[]=>by simp[jk]
 |s::r=>by
  have:=C2 r;cases h:Xp s with
  |true=>grind[ut]
  |false=>grind[uA]
theorem Ah:∀{l:List PSpan}{s:PSpan},s∈jk l→0≤s.from_∧s.from_<s.to∧s.to≤1048577
 | a::r,s,hs=>by
  cases h:Xp a with
  |true=>
   rw[ut h]at hs;rcases eM.1 hs with e|e
   ·subst e;have h2:=am h;grind[Du,II]
   ·exact Ah e
  |false=>rw[uA h]at hs;exact Ah hs
def memB(l:List PSpan)(d:Int):Bool:=l.any fun s=>decide (s.from_≤d∧d<s.to)
def Oa(d:Int):Bool:=decide (0≤d∧d<1048577)
theorem mD(d:Int):memB [] d=false:=rfl
theorem eh(a:PSpan)(l:List PSpan)(d:Int):memB (a::l) d=(decide (a.from_≤d∧d<a.to)||memB l d):=rfl
theorem zb(l r:List PSpan)(d:Int):memB (l++r) d=(memB l d||memB r d):=by simp[memB]
theorem g9{l:List PSpan}{d:Int}:memB l d=true↔∃s,s∈l∧s.from_≤d∧d<s.to:=by simp[memB]
theorem NU{l r:List PSpan}(h:l.Perm r)(d:Int):memB l d=memB r d:=by
 rw[A6,g9,g9];grind
theorem C1:∀(l:List PSpan)(d:Int),memB (jk l) d=(Oa d&&memB l d)
 |[],d=>by simp[jk,memB]
 | a::r,d=>by
  have ih:=C1 r d;have e:∀b:Bool,(b=decide (0≤d∧d<1048577∧a.from_≤d∧d<a.to))→(b||(Oa d&&memB r d))=(Oa d&&memB (a::r) d):=fun b hb=>by grind[eh,Oa]
  cases h:Xp a with
  |true=>
   rw[ut h,eh,ih];refine e _ ?_;simp only[Du,II];grind
  |false=>
   rw[uA h,ih];have h2:=aE h;simp only[Du,II]at h2;grind
theorem NrmS.tail{a:PSpan}{r:List PSpan}(h:NrmS (a::r)):NrmS r:=⟨(ic.1 h.gap).2,fun s hs=>h.ok s (eN _ hs)⟩
theorem NrmS.low{a x:PSpan}{r:List PSpan}(h:NrmS (a::r))(hx:x∈r):a.to<x.from_:=(ic.1 h.gap).1 x hx
theorem NrmS.head{a:PSpan}{r:List PSpan}(h:NrmS (a::r)):0≤a.from_∧a.from_<a.to∧a.to≤1048577:=h.ok a (eu ..)
theorem xI:NrmS []:=⟨.nil,fun s h=>by grind⟩
theorem rW{a:PSpan}{r:List PSpan}(h:NrmS (a::r)):memB (a::r) a.from_=true:=by grind[eh,cases NrmS]
theorem F1{a:PSpan}{r:List PSpan}(h:NrmS (a::r)){d:Int}(hd:memB (a::r) d=true):a.from_≤d:=by
 obtain⟨s,h1,h2,h3⟩:=g9.1 hd;rcases eM.1 h1 with e|e
 ·simp_all
 ·have:=h.low e;grind[cases NrmS]
theorem PR{a:PSpan}{r:List PSpan}(h:NrmS (a::r)):memB (a::r) a.to=false:=by
 cases q:memB (a::r) a.to with
 |false=>rfl
 |true=>
  obtain⟨s,h1,h2,h3⟩:=g9.1 q;rcases eM.1 h1 with e|e
  ·simp_all
  ·have:=h.low e;omega
theorem F0{a:PSpan}{r:List PSpan}(h:NrmS (a::r))(d:Int):memB r d=(decide (a.to≤d)&&memB (a::r) d):=by
 rw[eh];by_cases h1:a.to≤d
 ·grind
 ·have:memB r d=false:=by
   cases q:memB r d with
   |false=>rfl
   |true=>
    obtain⟨s,h2,h3,h4⟩:=g9.1 q;have:=h.low h2;omega
  grind
theorem zq:∀{r s:List PSpan},NrmS r→NrmS s→(∀d,memB r d=memB s d)→r=s
 |[],[],_,_,_=>rfl
 |[],b::s,_,hs,h=>by grind[rW,mD]
 |a::r,[],hr,_,h=>by grind[rW,mD]
 | a::r,b::s,hr,hs,h=>by
  have h1:b.from_≤a.from_:=F1 hs (by grind[rW]);have h2:a.from_≤b.from_:=F1 hr (by grind[rW]);have ha:=hr.head;have hb:=hs.head;have h3:¬a.to<b.to:=fun q=>by grind[eh,PR]
  have h4:¬b.to<a.to:=fun q=>by grind[eh,PR]
  have e:a=b:=by
   obtain⟨a1,a2⟩:=a;obtain⟨b1,b2⟩:=b;grind
  subst e;rw[zq hr.tail hs.tail fun d=>by rw[F0 hr,F0 hs,h]]
def vO(f:Int→Bool)(d:Int)(l:List PSpan):List PSpan:=match f d with
 |false=>l
 |true=>match l with
  |[]=>[⟨d,d+1⟩]
  |s::r=>if s.from_=d+1 then⟨d,s.to⟩::r else⟨d,d+1⟩::s::r
def wy(f:Int→Bool):Nat→List PSpan
 |0=>[]
 |k+1=>vO f (1048577-Int.ofNat (k+1)) (wy f k)
theorem OK{f:Int→Bool}{d:Int}{l:List PSpan}(h0:0≤d)(h1:d+1≤1048577)(hl:NrmS l)(hf:∀s,s∈l→d+1≤s.from_):
  NrmS (vO f d l)∧(∀s,s∈vO f d l→d≤s.from_)∧∀e,memB (vO f d l) e=((decide (e=d)&&f e)||memB l e):=by
 unfold vO;cases hfd:f d with
 |false=>grind
 | true=>
  match l,hl,hf with
  |[],_,_=>
   refine⟨⟨by simp,fun s hs=>by grind⟩,fun s hs=>by simp_all,fun e=>?_⟩;simp only[eh,mD,Bool.or_false];grind
  | s::r,hl,hf=>
   have hs:=hl.head;have hs2:=hf s (eu ..);simp only[];by_cases q:s.from_=d+1
   ·rw[if_pos q];refine⟨⟨ic.2 ⟨fun x hx=>hl.low hx,hl.tail.gap⟩,fun x hx=>?_⟩,fun x hx=>?_,fun e=>?_⟩
    ·grind[cases NrmS]
    ·grind
    ·simp only[eh];grind
   ·rw[if_neg q];refine⟨⟨ic.2 ⟨fun x hx=>?_,hl.gap⟩,fun x hx=>?_⟩,fun x hx=>?_,fun e=>?_⟩
    ·have:=hf x hx;rcases eM.1 hx with e|e
     ·grind
     ·have:=hl.low e;grind
    ·rcases eM.1 hx with e|e
     ·grind
     ·exact hl.ok x e
    ·grind
    ·rw[eh];grind
theorem Fl(f:Int→Bool):∀k,k≤1048577→NrmS (wy f k)∧(∀s,s∈wy f k→1048577-Int.ofNat k≤s.from_)∧∀e,memB (wy f k) e=(decide (1048577-Int.ofNat k≤e∧e<1048577)&&f e)
 |0,_=>by
  refine⟨xI,fun s h=>(by cases h),fun e=>?_⟩;have:decide (1048577-Int.ofNat 0≤e∧e<1048577)=false:=by simp_all
  rw[this];rfl
 |k+1,hk=>by
  obtain⟨h1,h2,h3⟩:=Fl f k (by omega);simp only[aP]at *;have:=OK (f:=f) (d:=1048577-((k+1:Nat):Int)) (l:=wy f k) (by omega) (by omega) h1 (fun s hs=>by grind);have h5:wy f (k+1)=vO f (1048577-((k+1:Nat):Int)) (wy f k):=by grind[wy]
  grind
theorem PT(f:Int→Bool):∃l:List PSpan,NrmS l∧∀d,memB l d=(Oa d&&f d):=by
 obtain⟨h1,_,h3⟩:=Fl f 1048577 (au _);exact⟨_,h1,fun d=>by simp_all[Oa]⟩
noncomputable def nf(f:Int→Bool):List PSpan:=Classical.choose (PT f)
theorem zx(f:Int→Bool):NrmS (nf f):=(Classical.choose_spec (PT f)).1
theorem IF(f:Int→Bool)(d:Int):memB (nf f) d=(Oa d&&f d):=(Classical.choose_spec (PT f)).2 d
theorem P0{f:Int→Bool}{r:List PSpan}(h:NrmS r)(hm:∀d,memB r d=(Oa d&&f d)):r=nf f:=zq h (zx f) fun d=>by grind[IF]
theorem P2{f g:Int→Bool}(h:∀d,Oa d=true→f d=g d):nf f=nf g:=P0 (zx f) fun d=>by
 rw[IF];grind
theorem KP{l:List PSpan}(h:NrmS l):l=nf (memB l):=P0 h fun d=>by
 cases q:memB l d with
 |false=>simp_all
 |true=>
  obtain⟨s,h1,h2,h3⟩:=g9.1 q;have:=h.ok s h1;have:Oa d=true:=by unfold Oa;grind
  simp_all
theorem DU{α:Type}[Inhabited α]{l:List α}{n:Nat}(h:n<l.length):l.take (n+1)=l.take n++[gD l n]:=by grind[List.take_add_one,gD]
theorem yX{α:Type}[Inhabited α]{l:List α}{n:Nat}(h:n<l.length):l.drop n=gD l n::l.drop (n+1):=by grind[List.drop_eq_getElem_cons,gD]
theorem tq{α:Type}{l:List α}{n m:Nat}{x:α}(h:n≤m):(l.set m x).take n=l.take n:=by
 apply List.ext_getElem?;grind
theorem QN{α:Type}[Inhabited α]{l:List α}{i k:Nat}{x:α}(h:i<l.length):gD (l.set i x) k=if k=i then x else gD l k:=by
 unfold gD List.getD;grind
theorem sZ.at{l:List PSpan}(h:sZ l){i k:Nat}(hik:i≤k)(hk:k<l.length):(gD l i).from_≤(gD l k).from_:=by
 rcases fZ i k with q|q
 ·have:=EO.1 h i k (by omega) hk q;grind[gD]
 grind
structure MergeI(l cur:List PSpan)(n i:Nat):Prop where
 len:cur.length=l.length
 le:n≤i
 il:i≤l.length
 pos:0<i→0<n
 rest:∀k,i≤k→k<l.length→gD cur k=gD l k
 gap:∀j k,j<k→k<n→(gD cur j).to<(gD cur k).from_
 ok:∀k,k<n→0≤(gD cur k).from_∧(gD cur k).from_<(gD cur k).to∧(gD cur k).to≤1048577
 last:0<n→∀k,i≤k→k<l.length→(gD cur (n-1)).from_≤(gD l k).from_
 mem:∀d,(memB (cur.take n) d||memB (l.drop i) d)=memB l d
theorem MergeI.start(l:List PSpan):MergeI l l 0 0:=⟨rfl,au _,bG _,fun h=>absurd h (wZ _),fun _ _ _=>rfl,fun _ _ _ h=>absurd h (nF _),fun _ h=>absurd h (nF _),fun h=>absurd h (wZ _),fun d=>by simp[memB]⟩
theorem MergeI.copy{l cur:List PSpan}{n i:Nat}(h:MergeI l cur n i)(hi:i<l.length)(hs:sZ l)(hok:∀k,k<l.length→0≤(gD l k).from_∧(gD l k).from_<(gD l k).to∧(gD l k).to≤1048577)
  (hn:n=0∨(gD cur (n-1)).to<(gD cur i).from_):MergeI l (cur.set n (gD cur i)) (n+1) (i+1):=by
 rw[h.rest i (au _) hi]at hn ⊢;have hl:=h.le;have hcl:=h.len;have hg:∀k,gD (cur.set n (gD l i)) k=if k=n then gD l i else gD cur k:=fun k=>QN (by omega)
 refine⟨by simp_all,by omega,by omega,fun _=>by omega,fun k h1 h2=>?_,fun j k h1 h2=>?_,fun k h1=>?_,fun _ k h1 h2=>?_,fun d=>?_⟩
 ·grind[cases MergeI]
 ·rw[hg,hg,if_neg (by omega)];by_cases e:k=n
  ·rw[if_pos e];rcases hn with hn|hn
   ·omega
   ·by_cases e2:j=n-1
    ·simp_all
    ·have h3:=h.gap j (n-1) (by omega) (by omega);grind[cases MergeI]
  ·grind[cases MergeI]
 ·rw[hg];by_cases e:k=n
  ·simp_all
  ·grind[cases MergeI]
 ·rw[hg,if_pos (by omega)];exact hs.at (by omega) h2
 ·rw[DU (by grind),hg,if_pos rfl,tq (au _),zb,←h.mem d,yX hi,eh,eh,mD];grind
theorem MergeI.join{l cur:List PSpan}{n i:Nat}(h:MergeI l cur n i)(hi:i<l.length)(hs:sZ l)(hok:∀k,k<l.length→0≤(gD l k).from_∧(gD l k).from_<(gD l k).to∧(gD l k).to≤1048577)
  (hn:0<n)(hle:(gD cur i).from_≤(gD cur (n-1)).to)(x:Int)(hx:x=Cc (gD cur (n-1)).to (gD cur i).to):MergeI l (cur.set (n-1) ⟨(gD cur (n-1)).from_,x⟩) n (i+1):=by
 rw[h.rest i (au _) hi]at hle;rw[h.rest i (au _) hi,Du]at hx;have hl:=h.le;have hcl:=h.len;have hg:∀k,gD (cur.set (n-1) ⟨(gD cur (n-1)).from_,x⟩) k=if k=n-1 then⟨(gD cur (n-1)).from_,x⟩else gD cur k:=fun k=>QN (by omega)
 have h4:=h.ok (n-1) (by omega);have h5:=hok i hi;have h6:=h.last hn i (au _) hi;refine⟨by simp_all,by omega,by omega,fun _=>hn,fun k h1 h2=>?_,fun j k h1 h2=>?_,fun k h1=>?_,fun _ k h1 h2=>?_,fun d=>?_⟩
 ·grind[cases MergeI]
 ·rw[hg,hg,if_neg (by omega)];by_cases e:k=n-1
  ·grind[cases MergeI]
  ·grind[cases MergeI]
 ·rw[hg];by_cases e:k=n-1
  ·grind
  ·grind[cases MergeI]
 ·grind[cases MergeI]
 ·obtain⟨m,rfl⟩:∃m,n=m+1:=⟨n-1,by omega⟩
  simp only[Nat.add_sub_cancel]at *;rw[DU (by grind),hg,if_pos rfl,tq (au _),zb,←h.mem d,yX hi,eh (gD l i),DU (by omega),zb,eh,eh,mD,Bool.or_false,Bool.or_false];grind
theorem MergeI.nrm{l cur:List PSpan}{n i:Nat}(h:MergeI l cur n i):NrmS (cur.take n):=by
 have hl:=h.le;have hcl:=h.len;have hil:=h.il;have hlen:(cur.take n).length=n:=by grind
 have hg:∀k (hk:k<(cur.take n).length),(cur.take n)[k]=gD cur k:=fun k hk=>by rw[List.getElem_take];unfold gD List.getD;grind
 refine⟨?_,fun s hs=>?_⟩;all_goals grind[List.pairwise_iff_getElem,List.getElem_of_mem,cases MergeI]
theorem MergeI.done{l cur:List PSpan}{n i:Nat}(h:MergeI l cur n i)(hi:l.length≤i)(d:Int):memB (cur.take n) d=memB l d:=by rw[←h.mem d,EN hi,mD,Bool.or_false]
theorem RE{l l':List PSpan}(hp:l'.Perm (jk l)):∀k,k<l'.length→0≤(gD l' k).from_∧(gD l' k).from_<(gD l' k).to∧(gD l' k).to≤1048577:=fun k hk=>Ah (hp.mem_iff.1 (ge hk))
noncomputable def gT(l:List PSpan):List PSpan:=nf (memB l)
theorem F3{l r:List PSpan}(h:NrmS r)(hm:∀d,memB r d=memB (jk l) d):r=gT l:=P0 h fun d=>by grind[C1]
theorem NX{l:List PSpan}(h:jk l=[]):[]=gT l:=F3 xI fun d=>by grind
end Go.Ev
namespace Go.Ev
open Go
theorem sP{zs:List Int}(hs:zs.Pairwise fun a b=>a≤b):(an zs).Pairwise (fun a b=>a<b)∧∀z,z∈an zs↔z∈zs:=by
 generalize hd:zs.toArray=d;have hsz:d.size=zs.length:=by grind
 have hx:∀j (hj:j<zs.length),d[j]! =zs[j]:=fun j hj=>by grind
 have mono:∀i j,i≤j→j<zs.length→d[i]!≤d[j]!:=fun i j hij hj=>by
  rcases fZ i j with q|q
  ·rw[hx i (by omega),hx j hj];exact EO.1 hs i j (by omega) hj q
  grind
 have key:∀m,m≤zs.length→(Lib.compactUpTo d m).Pairwise (fun a b=>a<b)∧(∀z,z∈Lib.compactUpTo d m→∃j,j<m∧z=d[j]!)∧∀j,j<m→d[j]!∈Lib.compactUpTo d m:=by
  intro m;induction m with
  |zero=>simp_all[Lib.compactUpTo]
  | succ m ih=>
   intro hm;obtain⟨h1,h2,h3⟩:=ih (by omega);rw[Lib.compactUpTo_succ];cases hk:Lib.keeps d m with
   | true=>
    simp only[if_true];have hk':m=0∨d[m]!≠d[m-1]!:=by grind[Lib.keeps]
    refine⟨List.pairwise_append.2 ⟨h1,by simp,fun a ha b hb=>?_⟩,fun z hz=>?_,fun j hj=>?_⟩
    ·obtain⟨j,hj,rfl⟩:=h2 a ha;have hb:b=d[m]!:=by simp_all
     subst hb;have e1:=mono j (m-1) (by omega) (by omega);have e2:=mono (m-1) m (by omega) (by omega);omega
    all_goals grind
   |false=>
    simp only[gq,if_false,ec];have hk':¬(m=0∨d[m]!≠d[m-1]!):=by grind[Lib.keeps]
    grind
 obtain⟨h1,h2,h3⟩:=key zs.length (au _);have e:an zs=Lib.compactUpTo d zs.length:=by grind[an,Lib.compact]
 rw[e];refine⟨h1,fun z=>⟨fun hz=>?_,fun hz=>?_⟩⟩
 ·grind
 ·obtain⟨j,hj,rfl⟩:=EP hz;simp_all
theorem NrmS.at{l:List PSpan}(h:NrmS l){j k:Nat}(hjk:j<k)(hk:k<l.length):(gD l j).to<(gD l k).from_:=by
 have:=EO.1 h.gap j k (by omega) hk hjk;grind[gD]
theorem NrmS.okAt{l:List PSpan}(h:NrmS l){k:Nat}(hk:k<l.length):0≤(gD l k).from_∧(gD l k).from_<(gD l k).to∧(gD l k).to≤1048577:=h.ok _ (ge hk)
theorem Ti{l:List PSpan}{d:Int}:memB l d=true↔∃k,k<l.length∧(gD l k).from_≤d∧d<(gD l k).to:=by
 rw[g9];constructor
 ·rintro⟨s,h1,h2⟩
  obtain⟨k,hk,e⟩:=EP h1;have:gD l k=s:=by grind[gD]
  grind
 grind[ge]
theorem CT {a b:Int}:ah (jj a b) 0=true↔a=b:=by
 unfold jj;cases h:ap a b with
 | true => have:=am h;constructor
           ·intro h;cases h
           omega
 |false=>
  have:=aE h;cases h2:ap b a with
  | true => have:=am h2;constructor
            ·intro h;cases h
            omega
  |false=>have:=aE h2;exact⟨fun _=>by omega,fun _=>rfl⟩
theorem DB{l:List PSpan}(h:NrmS l)(d:Int):gI l d=memB l d:=by
 have hi:=uo (d:=d) h.sort;have hc:=yJ l d;rw[A6,Ti];unfold gI Gb;simp only[rB,bx];constructor
 ·rintro(⟨h1,h2⟩|⟨h1,h2⟩)
  ·have h1:=am h1;simp only[aP]at h1;have h2:=CT.1 h2;have:=h.okAt (k:=lF l d) (by omega);grind
  ·have h1:=am h1;have h2:=am h2;simp only[aP]at h1;have h3:=am ((hi (lF l d-1) (by omega)).2 (by omega));grind
 ·rintro⟨k,hk,h1,h2⟩
  by_cases e:(gD l k).from_=d
  ·left;have e1:¬k<lF l d:=fun q=>by have:=am ((hi k hk).2 q);omega
   have e2:¬lF l d<k:=fun q=>by
    have h3:=h.at q hk;have h4:=h.okAt (k:=lF l d) (by omega);grind[jF]
   have e3:lF l d=k:=by omega
   rw[e3];exact⟨jF (by simp_all),CT.2 e⟩
  ·right;have e1:k<lF l d:=(hi k hk).1 (jF (by omega));have e2:¬k+1<lF l d:=fun q=>by
    have h3:=h.at (j:=k) (k:=k+1) (by omega) (by omega);have:=am ((hi (k+1) (by omega)).2 q);omega
   grind[jF]
def pX(l:List PSpan):List Int:=l.flatMap fun s=>[s.from_,s.to]
theorem CN(s:PSpan)(r:List PSpan):pX (s::r)=[s.from_,s.to]++pX r:=by simp[pX]
theorem kY:∀(l:List PSpan),(pX l).length=2*l.length
 |[]=>rfl
 |s::r=>by rw[CN];simp[kY r];omega
theorem HQ{l:List PSpan}{s:PSpan}(h:s∈l):s.from_∈pX l∧s.to∈pX l:=by
 unfold pX;grind
def j5(g:Int→Bool):List Int→List PSpan
 |[]=>[]
 | a::r=>match r with
  |[]=>[]
  |b::_=>match g a with
   |true=>⟨a,b⟩::j5 g r
   |false=>j5 g r
theorem Ff(g:Int→Bool)(a b:Int)(r:List Int):j5 g (a::b::r)=match g a with|true=>⟨a,b⟩::j5 g (b::r)|false=>j5 g (b::r):=by rw[j5]
def rR:Int→List Int→Int
 |a,[]=>a
 |_,b::r=>rR b r
theorem zu:∀{r:List Int}{a:Int},(a::r).Pairwise (fun a b=>a<b)→a≤rR a r∧∀z,z∈r→z≤rR a r
 |[],a,_=>⟨Int.le_refl _,fun z h=>by grind⟩
 |b::r,a,h=>by
  obtain⟨h1,h2⟩:=ic.1 h;have h3:=h1 b (eu ..);obtain⟨k1,k2⟩:=zu h2;grind[rR]
theorem Fg{g:Int→Bool}{C:List Int}(hg:∀x y,(∀z,z∈C→z≤x∨y≤z)→∀d,x≤d→d<y→g d=g x):
  ∀(r:List Int)(a:Int),(a::r).Pairwise (fun a b=>a<b)→(∀z,z∈C→z≤a∨z∈r)→∀d,memB (j5 g (a::r)) d=(decide (a≤d∧d<rR a r)&&g d)
 |[],a,_,_,d=>by
  have:decide (a≤d∧d<rR a [])=false:=by grind[rR]
  rw[this];rfl
 | b::r,a,hp,hC,d=>by
  obtain⟨h1,h2⟩:=ic.1 hp;have hab:=h1 b (eu ..);obtain⟨hb2,h3⟩:=ic.1 h2;have hl:=(zu h2).1;have ih:=Fg hg r b h2 (fun z hz=>by grind) d;have hc:∀d,a≤d→d<b→g d=g a:=hg a b fun z hz=>by grind
  have e0:memB (j5 g (a::b::r)) d=((g a&&decide (a≤d∧d<b))||memB (j5 g (b::r)) d):=by
   rw[Ff];cases g a with
   |true=>rw[eh,Bool.true_and]
   |false=>simp_all
  rw[e0,ih,show rR a (b::r)=rR b r from rfl];grind
def iw(A:List PSpan):List Int:=an (bc (pX A))
theorem Lr(A:List PSpan):(iw A).Pairwise (fun a b=>a<b)∧∀z,z∈iw A↔z∈pX A:=by
 obtain⟨h1,h2⟩:=sP (ou (pX A));exact⟨h1,fun z=>(h2 z).trans (je (pX A)).mem_iff⟩
theorem za{A l:List PSpan}(hl:∀s,s∈l→s∈A){x y:Int}(hz:∀z,z∈iw A→z≤x∨y≤z){d:Int}(h1:x≤d)(h2:d<y):memB l d=memB l x:=by
 have key:∀s,s∈l→((s.from_≤d∧d<s.to)↔(s.from_≤x∧x<s.to)):=fun s hs=>by
  obtain⟨k1,k2⟩:=HQ (hl s hs);grind[Lr]
 rw[A6,g9,g9];grind
theorem MY{op:Bool→Bool→Bool}(h0:op false false=false)(A B:List PSpan)(d:Int):memB (j5 (fun d=>op (memB A d) (memB B d)) (iw (A++B))) d=op (memB A d) (memB B d):=by
 obtain⟨h1,h2⟩:=Lr (A++B);have out:∀(z1 z2:Int),(∀z,z∈iw (A++B)→z1≤z∧z≤z2)→¬(z1≤d∧d<z2)→op (memB A d) (memB B d)=false:=fun z1 z2 hz hd=>by
  have no:∀l:List PSpan,(∀s,s∈l→s∈A++B)→memB l d=false:=fun l hl=>by
   cases q:memB l d with
   |false=>rfl
   |true=>
    obtain⟨s,k1,k2,k3⟩:=g9.1 q;obtain⟨k4,k5⟩:=HQ (hl s k1);grind
  simp_all
 cases hC:iw (A++B)with
 |nil=>
  rw[j5,mD];exact(out (d+1) d (fun z hz=>by grind) (by omega)).symm
 | cons a r=>
  rw[hC]at h1;have hl:=zu h1;have hp:=(ic.1 h1).1;rw[Fg (C:=iw (A++B)) (fun x y hz d h3 h4=>by
   show op (memB A d) (memB B d)=op (memB A x) (memB B x)
   rw[za (A:=A++B) (fun s hs=>Bn _ hs) hz h3 h4,za (A:=A++B) (fun s hs=>v8 _ hs) hz h3 h4]) r a h1 (fun z hz=>by
   grind) d]
  by_cases q:a≤d∧d<rR a r;all_goals grind
theorem Ac(A:List PSpan):(iw A).length≤2*A.length:=by
 have:=xK (bc (pX A));have h2:=(je (pX A)).length_eq;grind[kY,iw]
theorem B9{g:Int→Bool}{C:List Int}{x:Nat}(h1:1≤x)(h2:x<C.length):j5 g (C.drop (x-1))=match g (gD C (x-1))with|true=>⟨gD C (x-1),gD C x⟩::j5 g (C.drop (x+1-1))|false=>j5 g (C.drop (x+1-1)):=by grind[yX,Ff]
theorem kN{g:Int→Bool}{C:List Int}{x:Nat}(h1:1≤x)(h2:C.length≤x):j5 g (C.drop (x-1))=[]:=by
 have:(C.drop (x-1)).length≤1:=by simp_all
 match C.drop (x-1),this with
 |[],_=>rfl
 |[_],_=>rfl
 |_::_::_,h=>simp_all
noncomputable def sQ(op:Bool→Bool→Bool)(a b:List PSpan):List PSpan:=nf fun d=>op (memB a d) (memB b d)
theorem ku(l:List PSpan):NrmS (gT l):=zx _
theorem Cy(l:List PSpan)(d:Int):memB (gT l) d=(Oa d&&memB l d):=IF _ d
theorem N3{op:Bool→Bool→Bool}(h0:op false false=false){a b A B:List PSpan}(hA:gT a=A)(hB:gT b=B):gT (j5 (fun d=>op (gI A d) (gI B d)) (iw (A++B)))=sQ op a b:=by
 have nA:NrmS A:=hA▸ku a;have nB:NrmS B:=hB▸ku b;have e:(fun d=>op (gI A d) (gI B d))=fun d=>op (memB A d) (memB B d):=funext fun d=>by grind[DB]
 rw[e];unfold gT sQ;refine P2 fun d hd=>?_
 rw[MY h0,←hA,←hB,Cy,Cy,hd,Bool.true_and,Bool.true_and]
end Go.Ev
namespace Go.Ev
open Go
section
variable{H:Type}{enc:TypeId×Value→H}{P:Program}{w:World}{base:Nat}{spare:Nat→Bool}{held:Bool}
inductive VL(M:dt):List AV→List Value→Prop
 |nil:VL M [] []
 |cons {x:AV} {v:Value} {xs:List AV} {vs:List Value} (h:VRel (fun _=>none) M x v) (t:VL M xs vs):VL M (x::xs) (v::vs)
theorem VL.append{M:dt}{xs ys:List AV}{a b:List Value}(h:VL M xs a)(k:VL M ys b):VL M (xs++ys) (a++b):=by
 induction h with
 |nil=>grind
 |cons h _ ih=>exact .cons h ih
theorem VL.at_{M:dt}{xs:List AV}{a:List Value}(h:VL M xs a):∀(j:Nat)(y:AV),xs[j]?=some y→∃v,a[j]?=some v∧VRel (fun _=>none) M y v:=by
 induction h with
 |nil=>simp_all
 |cons h _ ih=>grind
theorem VL.one{M:dt}{x:AV}{cs:List Value}(h:VL M [x] cs):∃v,cs=[v]∧VRel (fun _=>none) M x v:=by
 cases h with
 |cons h t=>cases t;simp_all
def Wt(P:Program)(t:TypeId)(d:DataW H):Prop:=∀m,m∈d.weights P t→m≤reachBytes
theorem pN{e:TypeId}{d:DataW H}{m:Nat}(hm:m∈d.weights P e):∀{l:List (DataW H)},d∈l→m∈DataW.weightsAll P e l
 |[],h=>by grind
 |a::r,h=>by
  unfold DataW.weightsAll;rcases eM.1 h with rfl|h
  ·simp_all
  ·exact v8 _ (pN hm h)
theorem ll{t:TypeId}{d:DataW H}{m:Nat}(hm:m∈d.weights P t):∀{ts:List TypeId}{l:List (DataW H)}(i:Nat),ts[i]?=some t→l[i]?=some d→m∈DataW.weightsEach P ts l
 |[],_,i,h,_=>by simp_all
 |_::_,[],i,_,h=>by simp_all
 |u::ts,a::r,i,h1,h2=>by
  unfold DataW.weightsEach;cases i with
  |zero=>simp_all
  |succ i=>exact v8 _ (ll hm i (by simp_all) (by simp_all))
def Ex(P:Program):List Field→Nat→Nat→Bool
 |[],off,n=>Nat.beq off n
 |f::r,off,n=>Nat.beq f.offset off&&Ex P r (off+P.cellsOf f.type) n
def VF(M:dt)(P:Program)(cs:List Value):List Field→List (List AV)→Prop
 |[],[]=>True
 |f::fs,xs::xss=>VL M xs ((cs.drop f.offset).take (P.cellsOf f.type))∧VF M P cs fs xss
 |_,_=>False
theorem VF.vl{M:dt}{cs:List Value}:∀{fs:List Field}{xss:List (List AV)}{off:Nat},Ex P fs off cs.length=true→VF M P cs fs xss→VL M xss.flatten (cs.drop off)
 |[],[],off,h,_=>by
  have:=pE h;rw[this,List.drop_length];exact .nil
 |[],_::_,_,_,h=>h.elim
 |_::_,[],_,_,h=>h.elim
 |f::fs,xs::xss,off,h,k=>by
  unfold Ex at h;rw[bx]at h;have ho:=pE h.1;have h1:=k.1;rw[ho]at h1;have h2:=VF.vl h.2 k.2;have e:cs.drop off=(cs.drop off).take (P.cellsOf f.type)++cs.drop (off+P.cellsOf f.type):=by grind[List.drop_drop,List.take_append_drop]
  rw[List.flatten_cons,e];exact h1.append h2
def TF(enc:TypeId×Value→H)(P:Program)(w:World)(base:Nat)(spare:Nat→Bool)(held:Bool)(n:Nat)(cs:List Value):List Field→Prop
 |[]=>True
 |f::fs=>(∃d p,DataW.trod enc P w base spare held n f.type ((cs.drop f.offset).take (P.cellsOf f.type))=some (d,p)∧Wt P f.type d)∧TF enc P w base spare held n cs fs
theorem VC{n:Nat}{cs:List Value}:∀(fs:List Field),(∀(i:Nat)(f:Field),fs[i]?=some f→∃d p,DataW.trod enc P w base spare held n f.type ((cs.drop f.offset).take (P.cellsOf f.type))=some (d,p)∧Wt P f.type d)→TF enc P w base spare held n cs fs
 |[],_=>trivial
 |f::fs,h=>⟨h 0 f rfl,VC fs fun i g hg=>h (i+1) g (by simp_all)⟩
theorem iF{t:TypeId}{fs:Array Field}{fuel:Nat}{cs:List Value}{d:DataW H}{p:List MemPlace}(hu:P.underlying t=some (.struct fs))(hc:Ex P fs.toList 0 (P.cellsOf t)=true)
  (h:DataW.trod enc P w base spare held fuel t cs=some (d,p))(hw:Wt P t d):
  ∃n,fuel=n+1∧TF enc P w base spare held n cs fs.toList∧∀xss,VF (cw w) P cs fs.toList xss→VL (cw w) xss.flatten cs:=by
 obtain⟨xs,n,rfl,h1,h2,h3,h4⟩:=DataW.trod_struct hu h;simp only[s7]at h1;obtain⟨rfl,_⟩:=h1;refine⟨n,rfl,VC _ fun i f hf=>?_,fun xss hx=>?_⟩
 ·have hf':fs[i]?=some f:=by simp_all
  have hi:i<xs.length:=by grind
  have e:=h4 i f hf';rw[lh hi]at e;refine⟨xs[i].1,xs[i].2,e,fun m hm=>hw m ?_⟩;unfold DataW.weights;rw[hu];exact ll hm i (by simp_all) (by grind)
 ·have:=VF.vl (off:=0) (by simp_all) hx;simp_all
theorem gc{t:TypeId}{fuel:Nat}{cs:List Value}{d:DataW H}{p:List MemPlace}(hu:P.underlying t=some (.int .i64))(h:DataW.trod enc P w base spare held fuel t cs=some (d,p)):∃x,VL (cw w) [.int .i64 x] cs:=by
 obtain⟨x,rfl,_⟩:=DataW.trod_int hu h;exact⟨x,.cons (.int _ _) .nil⟩
theorem nb{t:TypeId}{fuel:Nat}{cs:List Value}{d:DataW H}{p:List MemPlace}(hu:P.underlying t=some .string)(h:DataW.trod enc P w base spare held fuel t cs=some (d,p)):∃s,VL (cw w) [.str s] cs:=by
 obtain⟨⟨⟨s⟩⟩,rfl,_⟩:=DataW.trod_string hu h;exact⟨s,.cons (.str _) .nil⟩
theorem K7{α:Type}{Q:Nat→α→Prop}:∀(n:Nat),(∀i,i<n→∃x,Q i x)→∃l:List α,l.length=n∧∀i x,l[i]?=some x→Q i x
 |0,_=>⟨[],rfl,fun i x h=>by simp_all⟩
 |n+1,h=>by
  obtain⟨l,h1,h2⟩:=K7 n fun i hi=>h i (by omega)
  obtain⟨y,hy⟩:=h n (by omega);refine⟨l++[y],by simp_all,fun i x hx=>?_⟩;grind
theorem Y6{x:AV}(h:x.cells.all cF=true):Sc x:=fun y hy=>lL.1 h y hy
theorem yH{α:Type}(el:α→AV)(fit:α→Prop){t e:TypeId}{fuel:Nat}{cs:List Value}{d:DataW H}{p:List MemPlace}(hu:P.underlying t=some (.slice e))(hsz:Nat.blt 0 (P.cellsOf e)=true)(hby:Nat.blt 0 (P.bytesOf e)=true)
  (hel:∀x,(el x).cells.length=P.cellsOf e)(hsc:∀x,(el x).cells.all cF=true)(htop:∀x,(el x).top=0)
  (hrec:∀m,m<fuel→∀cs d p,DataW.trod enc P w base spare held m e cs=some (d,p)→Wt P e d→∃x,fit x∧VL (cw w) (el x).cells cs)
  (h:DataW.trod enc P w base spare held fuel t cs=some (d,p))(hw:Wt P t d):
  ∃l:List α,l.length<2^47∧(∀x,x∈l→fit x)∧VL (cw w) [.ls (l.map el)] cs:=by
 rw[dl]at hsz hby;simp only[decide_eq_true_eq]at hsz hby;rcases DataW.trod_slice hu h with⟨rfl,_⟩|⟨a,len,cap,elems,rest,n,rfl,rfl,h1,h2,h3,h4,h5,h6,_,_⟩
 ·exact⟨[],Nat.two_pow_pos 47,fun x h=>absurd h (List.not_mem_nil),.cons .lsn .nil⟩
 ·simp only[s7]at h1;obtain⟨rfl,_⟩:=h1;have hwl:len<2^47:=by
   have:=hw ((elems.length+rest.length)*P.bytesOf e) (by grind[DataW.weights]);have h7:elems.length≤(elems.length+rest.length)*P.bytesOf e:=b0 (Nat.le_add_right _ _) (Nat.le_mul_of_pos_right _ hby);have:elems.length≤reachBytes:=b0 h7 this;rw[h5]at this;exact m9 this (by decide)
  have el0:∀i,i<len→∃x,fit x∧∃cs:List Value,cs.length=P.cellsOf e∧(∀j,j<P.cellsOf e→w.cell? ((a.add (i*P.cellsOf e)).add j)=cs[j]?)∧VL (cw w) (el x).cells cs:=by
   intro i hi;have k5:=h6 i hi;have hi':i<elems.length:=by omega
   rw[lh hi']at k5;simp only[Option.bind_eq_some_iff]at k5;obtain⟨cs,c1,c2⟩:=k5;obtain⟨z1,z2⟩:=C3 c1;obtain⟨x,f1,f2⟩:=hrec n (by omega) cs elems[i].1 elems[i].2 c2 (fun m hm=>hw m (by
    unfold DataW.weights;rw[hu];exact eN _ (Bn _ (pN hm (kw.2 ⟨elems[i],DK hi',rfl⟩)))))
   grind
  obtain⟨l,q1,q2⟩:=K7 len el0;refine⟨l,by omega,fun x hx=>?_,.cons ?_ .nil⟩
  ·obtain⟨i,hi⟩:=E2.1 hx;grind
  ·have q1':(l.map el).length=len:=by simp_all
   generalize hys:l.map el=ys at *;have q3:∀i y,ys[i]?=some y→∃cs:List Value,cs.length=P.cellsOf e∧(∀j,j<P.cellsOf e→w.cell? ((a.add (i*P.cellsOf e)).add j)=cs[j]?)∧VL (cw w) y.cells cs:=by grind
   have q4:∀y,y∈ys→y.cells.length=P.cellsOf e∧Sc y:=by grind[Y6]
   have q5:aq ys=0:=by grind[aX]
   have addadd:∀i j:Nat,a.spot=none→(a.add i).add j=⟨a.block,a.off+i+j,none⟩:=by
    intro i j hs;obtain⟨blk,off,spot⟩:=a;grind[Addr.add]
   have spot:ys≠[]→a.spot=none:=by
    intro hne;obtain⟨x,hx⟩:∃x,ys[0]?=some x:=by
     cases ys with
     |nil=>simp_all
     |cons x r=>exact⟨x,rfl⟩
    grind[ra,Addr.add]
   have cell:∀(i j:Nat)(x:AV),ys[i]?=some x→j<P.cellsOf e→∃c v,cw w a.block=some c∧c[a.off+i*P.cellsOf e+j]?=some v∧∀y,x.cells[j]?=some y→VRel (fun _=>none) (cw w) y v:=by
    intro i j x hx hj;obtain⟨cs,c1,c2,c3⟩:=q3 i x hx;have:=c2 j hj;rw[lh (by omega),addadd _ _ (spot (by grind))]at this;obtain⟨_,c,m1,m2⟩:=ra this;refine⟨c,_,m1,m2,fun y hy=>?_⟩;obtain⟨v,g1,g2⟩:=c3.at_ j y hy;simp_all
   refine .lsp ?_ q5;by_cases hne:ys=[]
   ·subst hne;simp at q1';subst q1';exact .ps (sz:=P.cellsOf e) (c:=#[]) (by simp) (fun h=>by grind) (fun h=>absurd rfl h) (fun x h=>by simp_all) (fun i x j y h=>by simp_all)
   ·have hlen:0<ys.length:=pI.2 hne;obtain⟨x0,hx0⟩:∃x,ys[ys.length-1]?=some x:=⟨ys[ys.length-1],by simp⟩
    obtain⟨c,v0,m1,m2,_⟩:=cell (ys.length-1) (P.cellsOf e-1) x0 hx0 (by omega);have hc:=(wQ.1 m2).1;have hfit:a.off+ys.length*P.cellsOf e≤c.size:=by
     have h1:(ys.length-1)*P.cellsOf e+P.cellsOf e=ys.length*P.cellsOf e:=by rw[←pM];grind
     omega
    have:=VRel.ps (pl:=fun _=>none) (M:=cw w) (xs:=ys) (tight:=false) (a:=a) (cap:=cap) (sz:=P.cellsOf e) (c:=c) (by omega) (fun h=>by grind) (fun _=>⟨spot hne,m1,hfit,hsz⟩) q4
     (fun i x j y hx hy=>by
      obtain⟨r1,_⟩:=q4 x (bg hx);have hj:j<P.cellsOf e:=by grind
      obtain⟨c',v,n1,n2,n3⟩:=cell i j x hx hj;simp_all)
    simp_all
theorem me{α:Type}(el:α→AV)(fit:α→Prop){t e:TypeId}{fuel:Nat}{cs:List Value}{d:DataW H}{p:List MemPlace}(hu:P.underlying t=some (.slice e))(hsz:Nat.blt 0 (P.cellsOf e)=true)(hby:Nat.blt 0 (P.bytesOf e)=true)
  (hel:∀x,(el x).cells.length=P.cellsOf e)(hsc:∀x,(el x).cells.all cF=true)(htop:∀x,(el x).top=0)
  (hrec:∀m,m<fuel→∀cs d p,DataW.trod enc P w base spare held m e cs=some (d,p)→Wt P e d→∃x,fit x∧VL (cw w) (el x).cells cs)
  (h:DataW.trod enc P w base spare held fuel t cs=some (d,p))(hw:Wt P t d):
  ∃l:List α,l.length<2^60∧(∀x,x∈l→fit x)∧VL (cw w) [.ls (l.map el)] cs:=by
 have⟨l,h1,h2⟩:=yH el fit hu hsz hby hel hsc htop hrec h hw;grind
end
end Go.Ev
namespace Go.Ev
open Go
structure PPair where
 a:Int
 b:Int
deriving Inhabited,DecidableEq
structure PRef where
 act:Int
 item:Int
deriving Inhabited,DecidableEq
def nQ(u:TUnit):List PWord:=u.head++u.words
mutual
def mS:TUnit→List PWord
 |⟨_,_,_,_,_,h,w,ks⟩=>(h++w)++kf ks
def kf:List TUnit→List PWord
 |[]=>[]
 |k::r=>mS k++kf r
end
theorem LN(u:TUnit):mS u=nQ u++kf u.kids:=by obtain⟨a,b,c,d,e,h,w,ks⟩:=u;rw[mS];rfl
theorem DW:kf []=[]:=by rw[kf]
theorem sS(k:TUnit)(r:List TUnit):kf (k::r)=mS k++kf r:=by rw[kf]
theorem rq{k:Int}:∀{m:List (Int×Int)},dA k m=none→¬k∈m.map (·.1)
 |[],_=>by simp
 | (i,x)::r,h=>by
  simp only[dA]at h;cases e:ah k i with
  |true=>grind
  |false=>
   rw[e]at h;have:=rq h;grind[Lh]
section
variable{u w':TUnit}{ws:List PWord}{w:PWord}{r:List PWord}{ks:List TUnit}{m x:List (Int×Int)}{c B:Int}
end
theorem VRel.ls0{pl:Pl}{M:dt}{x:Value}(h:VRel pl M (.ls []) x):VRel pl M .nils x∨VRel pl M (.ps [] false) x:=by
 cases h with
 |lsn=>exact .inl .nils
 |lsp h _=>simp_all
theorem EF{P:Program}{G:eC}{f:FuncId}{a b c:List AV}{h:AHeap}{Ψ:AV→AHeap→Prop}(hs:∀pl M vs,VRels pl M c vs→VRels pl M a vs∨VRels pl M b vs)(h1:aI P G f a h Ψ)(h2:aI P G f b h Ψ):aI P G f c h Ψ:=fun pl M w vs hg hr hv=>(hs pl M vs hv).elim (h1 pl M w vs hg hr) (h2 pl M w vs hg hr)
theorem VRels.first{pl:Pl}{M:dt}{x y z:AV}{r:List AV}{vs:Array Value}(h:VRels pl M (z::r) vs)(hs:∀v,VRel pl M z v→VRel pl M x v∨VRel pl M y v):VRels pl M (x::r) vs∨VRels pl M (y::r) vs:=by
 obtain⟨h1,h2⟩:=h;have lift:∀u,VRel pl M u (vs.getD 0 undef)→VRels pl M (u::r) vs:=fun u hu=>⟨h1,fun j y hj=>by
  cases j with
  |zero=>grind
  |succ j=>simp_all⟩
 exact(hs _ (h2 0 z rfl)).imp (lift x) (lift y)
end Go.Ev
namespace Go.Ev
open Go
theorem aN{n b m:Nat}(h1:n≤m)(h2:m≤2^40)(h3:m*b≤2^40):small n b=true:=by
 unfold small;have h4:n*b≤m*b:=eA b h1;grind[Nat.ble_eq_true_of_le]
def XT(d:Int):List Int→List Int
 |[]=>[d]
 |x::r=>bif ap x d then x::XT d r else bif ah x d then x::r else d::x::r
def gu(ws:List PWord)(l:List Int):List Int:=ws.foldl (fun l w=>XT w.act l) l
end Go.Ev
namespace Go.Ev
open Go
def S1{α:Type}:Result α→World
 | .ok _ w=>w
 | .halt _ w=>w
def gW:GStep→World
 | .go _ w _=>w
 | .comm _ _ _ _ w _=>w
 | .spawn _ _ w _=>w
 | .count _ w _=>w
 | .timer _ _ w _=>w
 | .alone _ _ w _=>w
 | .newcoro _ _ _ w _=>w
 | .coroswitch _ _ _ w _=>w
 | .collect _ w _=>w
 | .watch _ w _=>w
 | .ended _ w _=>w
theorem lV(es:Array Event)(g:GStep):gW (GStep.after es g)=gW g:=by cases g<;>rfl
theorem Js{α:Type}:∀(q:Ask α)(w:World),w.drawn≤(w.ask q).2.drawn
 | .done a,w=>au _
 | .ask what range k,w=>by
  rw[World.ask];split
  ·exact Js (k 0) w
  ·exact b0 (nG _) (Js _ {w with drawn:=w.drawn+1})
theorem O0(w:World)(c:Sys):w.drawn≤(w.sys c).2.drawn:=by
 unfold World.sys;have h:=Js (Kernel.perform c w.os) w;grind
theorem xy{p:Program}{w w':World}{at_:Addr}{u:TypeId}{k:Addr}{v:Value}{b:Bool}{l:List Addr}(h:w.viewStore p at_ u k v b=.ok (w',l)):w'.drawn=w.drawn:=by
 unfold World.viewStore at h;simp only[bind,Except.bind,pure,Except.pure]at h
 repeat' split at h
 all_goals first|cases h;done|(injection h with h;injection h with h1 h2;rw[←h1])
theorem AK{p:Program}{w w':World}{a:Addr}{v:Value}{b:Bool}{l:List Addr}(h:w.farStore p a v b=.ok (w',l)):w'.drawn=w.drawn:=by
 unfold World.farStore at h
 repeat' split at h
 all_goals first|cases h;done|grind[xy]
theorem D6(w:World)(a:Addr)(n:Nat):(w.freeze a n).drawn=w.drawn:=by unfold World.freeze;grind
theorem PU(p:Program){α:Type}(s:Sem α):∀(w:World),w.drawn≤(S1 (s.run p w)).drawn:=by
 induction s with
 |pure a=>exact fun w=>au _
 |load m a k ih=>
  intro w;simp only[Sem.run]
  repeat' split
  all_goals first|exact ih _ _|exact au _
 | store m a v k ih=>
  intro w;cases v
  all_goals simp only[Sem.run]
  all_goals first
   |exact au _
   |((repeat' split);all_goals first|exact au _|exact ih (w.setCell _ _)|(rename_i e;refine b0 ?_ (ih _);rw[AK e];exact au _))
 |new o k ih=>grind[Sem.run]
 |shape r k ih=>grind[Sem.run]
 |freeze a n k ih=>intro w;simp only[Sem.run];refine b0 ?_ (ih _);simp_all[D6]
 |frozen a k ih=>grind[Sem.run]
 |getObj r k ih=>
  intro w;simp only[Sem.run]
  repeat' split
  all_goals first|exact ih _ _|exact au _
 |setObj r o k ih=>
  intro w;simp only[Sem.run]
  repeat' split
  all_goals first|exact ih {w with heap:=w.heap.setIfInBounds r o}|exact au _
 |choose q k ih=>
  intro w;simp only[Sem.run];grind
 |sys c k ih=>grind[Sem.run,O0]
 |program k ih=>grind[Sem.run]
 |mark m k ih=>grind[Sem.run]
 |halt h=>exact fun w=>au _
theorem cA{p:Program}{α:Type}{s:Sem α}{w:World}{r:Result α}(h:s.run p w=r):w.drawn≤(S1 r).drawn:=h▸PU p s w
theorem SR{p:Program}{α:Type}{s:Sem α}{w:World}{es es':Array Event}{r:Result α}(h:s.runT p w es=(r,es')):w.drawn≤(S1 r).drawn:=by
 have:=Sem.runT_fst p s w es;rw[h]at this;exact cA this.symm
theorem Jy(w:World)(fd:Nat)(text:ByteArray)(o:Outcome):w.drawn≤(gW (endWith w fd text o)).drawn:=by
 unfold endWith;simp only[];have h:=O0 w (.write fd text);split;all_goals (rename_i e;rw[e]at h)
 all_goals repeat' split
 all_goals exact h
theorem xQ(fr:Frame)(m:String)(w:World):w.drawn≤(gW (endThrow fr m w)).drawn:=au _
theorem qr(p:Program)(fr:Frame)(v:Value)(w:World):w.drawn≤(gW (endPrinting p fr v w)).drawn:=by
 unfold endPrinting;simp only[]
 repeat' split
 all_goals exact au _
theorem xZ(p:Program)(fr:Frame)(cs:List Frame)(d:Option Dying)(m:String)(w:World):w.drawn≤(gW (endFatal p fr cs d m w)).drawn:=by
 unfold endFatal;simp only[];split;all_goals (rename_i e;exact cA e)
theorem H7(p:Program)(fr:Frame)(d:Dying)(f:Fatal)(w:World):w.drawn≤(gW (writeOn p fr d f w)).drawn:=by
 unfold writeOn;split
 ·exact au _
 ·simp only[];split;all_goals (rename_i e;exact SR e)
theorem W9(p:Program)(fr:Frame)(d:Dying)(w:World):w.drawn≤(gW (die p fr d w)).drawn:=by
 unfold die;split
 ·grind[H7]
 ·split
  ·split
   ·exact au _
   grind[Jy]
  ·simp only[];split
   ·exact au _
   ·split;all_goals (rename_i e;exact cA e)
   ·rw[lV];split;all_goals first|(rename_i e;exact cA ((Sem.runT_fst ..).symm.trans e))|skip
    ·rename_i e;exact b0 (cA ((Sem.runT_fst ..).symm.trans e)) (qr ..)
    ·exact au _
   ·exact au _
theorem qu(p:Program)(main:Bool)(fr:Frame)(cs:List Frame)(d:Option Dying)(v:Value)(w:World):w.drawn≤(gW (doReturn p main fr cs d v w)).drawn:=by
 unfold doReturn
 repeat' split
 all_goals exact au _
theorem sE{c:Prop}[Decidable c]{a b:GStep}{n:Nat}(h1:n≤(gW a).drawn)(h2:n≤(gW b).drawn):n≤(gW (if c then a else b)).drawn:=by grind
theorem xi(p:Program)(fr:Frame)(cs:List Frame)(dy:Option Dying)(d:Deferred)(w:World):w.drawn≤(gW (callDeferred p fr cs dy d w)).drawn:=by
 unfold callDeferred;refine sE ?_ ?_
 ·exact au _
 ·simp only[];rw[lV];split;all_goals (rename_i e;have h:=cA ((Sem.runT_fst ..).symm.trans e))
  all_goals first|exact h|exact b0 h (xZ ..)|((repeat' split)<;>exact h)
theorem L3(p:Program)(main:Bool)(fr:Frame)(cs:List Frame)(dy:Option Dying)(w:World):w.drawn≤(gW (unwind p main fr cs dy w)).drawn:=by
 unfold unwind;split
 ·simp only[];rw[lV];split;all_goals (rename_i e;exact cA ((Sem.runT_fst ..).symm.trans e))
 ·grind[xi]
 ·split
  ·exact au _
  ·split
   ·exact au _
   ·split
    ·exact au _
    ·split
     ·split
      ·exact au _
      ·split;all_goals (rename_i e;exact cA e)
     ·split
      ·grind[qr]
      ·exact au _
  ·split
   ·grind[qu]
   ·simp only[];rw[lV];split;all_goals (rename_i e;have h:=cA ((Sem.runT_fst ..).symm.trans e))
    all_goals first|exact h|exact b0 h (qu ..)
theorem Rj(p:Program)(fr:Frame)(cs:List Frame)(dy:Option Dying)(g:Nat)(w:World):w.drawn≤(gW (early p fr cs dy g w)).drawn:=by
 unfold early;simp only[]
 repeat' split
 all_goals first|exact au _|(rename_i e;exact cA e)|(rename_i e _;exact cA e)|(rename_i e _ _;exact cA e)|(rename_i e _ _ _ _;exact cA e)
theorem uE(p:Program)(listen:Bool)(fr:Frame)(cs:List Frame)(dy:Option Dying)(s:Sem Next)(w:World):w.drawn≤(gW (stepG.apply p listen fr cs dy s w)).drawn:=by
 unfold stepG.apply;simp only[];rw[lV];have h0:w.drawn≤(S1 (if listen=true then Sem.runT p s w #[]else(Sem.run p s w,#[])).fst).drawn:=by
  cases listen
  ·grind[PU]
  ·exact cA (Sem.runT_fst ..).symm
 generalize (if listen=true then Sem.runT p s w #[]else(Sem.run p s w,#[])).fst=r at h0 ⊢;split;all_goals first|exact h0|exact b0 h0 (xZ ..)|exact b0 h0 (Rj ..)|exact b0 h0 (xQ ..)|skip
 all_goals repeat' split
 all_goals first|exact h0|exact b0 h0 (xQ ..)|skip
theorem TU(p:Program)(listen:Bool)(fr:Frame)(cs:List Frame)(dy:Option Dying)(w:World):w.drawn≤(gW (stepG.oper p listen fr cs dy w)).drawn:=by
 unfold stepG.oper;split
 ·exact au _
 ·split;all_goals exact uE ..
theorem Uv(p:Program)(main listen:Bool)(fr:Frame)(cs:List Frame)(dy:Option Dying)(w:World):w.drawn≤(gW (stepG.exec p main listen fr cs dy w)).drawn:=by
 have lv:∀(l:Nat)(jump:Option Code),w.drawn≤(gW (GStep.after (seen p fr.fn ((Instr.endRound l jump).runT p w #[]).snd) (match((Instr.endRound l jump).runT p w #[]).fst with| .ok v w=>doReturn p main fr cs dy v w| .halt _ w=>.ended (.stuck "range over a function: no such loop" (fr.pos p)) w))).drawn :=by
  intro l jump;rw[lV];have h0:=cA (Sem.runT_fst p (Instr.endRound l jump) w #[]).symm;split;all_goals (rename_i e;rw[e]at h0)
  ·exact b0 h0 (qu ..)
  ·exact h0
 unfold stepG.exec;simp only[];split;all_goals first|exact au _|exact uE .. |skip
 ·split
  ·exact sE (au _) (au _)
  grind
 ·split
  ·exact sE (au _) (au _)
  grind
 ·split<;>exact au _
 ·rename_i id k _;cases exitTo id k with
  |none=>simp only[Option.elim];split;exact sE (au _) (au _);grind
  |some k'=>exact au _
 ·rename_i id k _;cases gotoIn id k with
  |none=>simp only[Option.elim];split;exact sE (au _) (au _);grind
  |some k'=>exact au _
 ·rw[lV];split
  ·rename_i e;exact b0 (cA ((Sem.runT_fst ..).symm.trans e)) (uE ..)
  ·rename_i e;exact cA ((Sem.runT_fst ..).symm.trans e)
 ·rw[lV];split<;>rename_i e<;>exact cA ((Sem.runT_fst ..).symm.trans e)
 ·rename_i row _ _ _;cases Extern.next row with
  |none=>exact au _
  |some e=>grind[uE]
 ·refine sE (au _) ?_;split<;>rename_i e<;>exact cA e
 ·exact sE (TU ..) (au _)
theorem O3(p:Program)(main listen:Bool)(g:Goroutine)(w:World):w.drawn≤(gW (stepG p main g w listen)).drawn:=by
 unfold stepG;grind[W9,Uv,L3]
def sD(n:Nat):Stepped→Prop
 | .next m=>n≤m.world.drawn
 | .ended _ _=>True
theorem sD.trans{n k:Nat}{s:Stepped}(h:n≤k)(g:sD k s):sD n s:=by
 cases s with
 |next m=>exact b0 h g
 |ended o w=>trivial
theorem Qv{c:Prop}[Decidable c]{a b:Stepped}{n:Nat}(h1:sD n a)(h2:sD n b):sD n (if c then a else b):=by grind
theorem K6(p:Program)(gs:Array Goroutine)(rest:Rest)(w:World):sD w.drawn (look p gs rest w):=by
 unfold look;simp only[];split
 ·refine Qv trivial ?_;split
  ·trivial
  ·split<;>rename_i e<;>first|exact cA e|trivial
 ·trivial
theorem xw{rest:Rest}{cases:Array CommCase}{w w':World}(h:waitingAt rest cases w=some w'):w'.drawn=w.drawn:=by
 unfold waitingAt at h
 repeat' split at h
 all_goals first|(cases h;done)|(cases h;rfl)
theorem DN{c:Prop}[Decidable c]{a b:Stepped×Array MemOp}{n:Nat}(h1:sD n a.1)(h2:sD n b.1):sD n (if c then a else b).1:=by grind
theorem Ag(p:Program)(rest:Rest)(gs:Array Goroutine)(i:Nat)(g:Goroutine)(cs:Array CommCase)(bl:Bool)(sh:CommShape)(w:World):sD w.drawn (communicate p rest gs i g cs bl sh w).1:=by
 unfold communicate;simp only[];refine DN trivial (DN (DN ?_ (au _)) ?_)
 ·split
  ·rename_i e;exact v9 (xw e).symm
  ·trivial
 ·split
  ·trivial
  ·rename_i w1 e;have h:w.drawn≤w1.drawn:=cA e;clear e;split
   ·split
    ·rename_i e;exact b0 h (cA e)
    ·trivial
   ·exact h
   ·exact h
   ·split
    ·exact h
    ·split
     ·rename_i e;exact b0 h (cA e)
     ·trivial
   ·exact h
   ·exact h
   ·trivial
theorem PK(p:Program)(m:Machine)(k:Nat):sD m.world.drawn (serve p m k):=by
 unfold serve;split
 ·trivial
 ·exact au _
 ·simp only[];split
  ·trivial
  ·exact au _
theorem A7{m m':Machine}{op:TimerOp}{v:Value}(h:timerOp m op=.ok (v,m')):m'.world.drawn=m.world.drawn:=by
 have rt:∀(m:Machine)(k:Nat)(t:Timer)(a b:Nat),(retime m k t a b).2.world.drawn=m.world.drawn:=by
  intro m k t a b;unfold retime drain;grind
 cases op with
 |new t=>
  simp only[timerOp]at h
  repeat' split at h
  all_goals first|(cases h;done)|(cases h;rfl)
 |stop var=>
  simp only[timerOp,timerOp.named]at h;grind
 | reset var a b=>
  simp only[timerOp,timerOp.named,timerOp.opened]at h;split at h
  ·rename_i e;have e2:∀m2:Machine,(if waitedFor m var=true then match Kernel.withPoller m.world.os with| .ok os=>some {m with world:={m.world with os}}| .error _=>none else some m)=some m2→m2.world.drawn=m.world.drawn:=by
    intro m2 e
    repeat' split at e
    all_goals first|(cases e;done)|(cases e;rfl)
   grind
  ·grind
 |deadline a b c d=>simp only[timerOp]at h;cases h;rfl
theorem SP(p:Program)(m:Machine)(i:Nat)(b:Bool):sD m.world.drawn (runT p m i b).1:=by
 unfold runT;simp only[];have h:=O3 p (i==0) b (m.gs.swapAt! i {(default:Goroutine)with status:=.finished}).1 m.world;generalize stepG p (i==0) (m.gs.swapAt! i {(default:Goroutine)with status:=.finished}).1 m.world b=s at h ⊢;cases s
 all_goals simp only[]
 all_goals try exact h
 all_goals try trivial
 ·exact sD.trans h (Ag ..)
 ·exact Qv trivial h
 ·split
  ·rename_i e;exact b0 h (v9 (A7 e).symm)
  ·split
   ·rename_i e;cases e;exact h
   ·trivial
  ·trivial
  ·trivial
 ·split
  ·exact h
  ·split
   ·rename_i e;cases e;exact h
   ·trivial
  ·trivial
 ·exact sD.trans h (K6 ..)
def Ov(n:Nat):Move→Prop
 | .goroutine m _=>n≤m.world.drawn
 | .machine s _=>sD n s
theorem Ov.trans{n k:Nat}{s:Move}(h:n≤k)(g:Ov k s):Ov n s:=by
 cases s with
 |goroutine m i=>exact b0 h g
 |machine s o=>exact sD.trans h g
theorem AD(p:Program)(m:Machine):Ov m.world.drawn (askOn p m):=by
 have pick:∀(m:Machine)(rs:List Nat),Ov m.world.drawn (match(choose (.sched rs.length)).run p m.world with
   | .halt _ w=>.machine (.ended (.stuck "sched" "") w)
   | .ok k world=>
    if rs.length≤1 then .goroutine {m with world} (rs.getD k 0)else
    match(choose (.extern "sched.slice" 65536)).run p world with
    | .halt _ w=>.machine (.ended (.stuck "sched.slice" "") w)
    | .ok n world=>.goroutine {m with world,rest:={m.rest with slice:=if n=0 then none else some (rs.getD k 0,n)}} (rs.getD k 0)):=by
  intro m rs;split
  ·trivial
  ·rename_i w1 e;have h:m.world.drawn≤w1.drawn:=cA e;split
   ·exact h
   ·split
    ·trivial
    ·rename_i e;exact b0 h (cA e)
 unfold askOn;simp only[];split
 ·trivial
 ·rename_i k w1 e;have h:m.world.drawn≤w1.drawn:=cA e;clear e;split
  ·exact sD.trans h (PK p {m with world:=w1} _)
  ·split
   ·split
    ·exact h
    ·split
     ·exact h
     ·split<;>trivial
   ·split
    ·exact Ov.trans h (pick {m with world:=w1} _)
    ·split
     ·trivial
     ·rename_i w2 e;exact Ov.trans (b0 h (cA e)) (pick {m with world:=w2} _)
     ·rename_i e;exact b0 h (cA e)
     ·rename_i k2 w2 e;exact Ov.trans (b0 h (cA e)) (pick (Machine.advanceTo {m with world:=w2} _) _)
theorem LH(p:Program)(m:Machine):Ov m.world.drawn (ask p m):=by
 unfold ask;split
 ·split
  ·trivial
  ·rename_i w1 e;have h:m.world.drawn≤w1.drawn:=cA e;have h2:=K6 p m.gs m.rest w1;split
   ·rename_i e2;rw[e2]at h2;exact Ov.trans (b0 h h2) (AD ..)
   ·exact sD.trans h h2
  ·rename_i w1 _ e;have h:m.world.drawn≤w1.drawn:=cA e;exact Ov.trans h (AD p {m with world:=w1})
 grind[AD]
theorem Tb(p:Program)(m:Machine):Ov m.world.drawn (move p m):=by
 unfold move;split
 ·split
  ·exact au _
  ·trivial
 ·split
  ·split
   ·exact au _
   ·exact LH p {m with rest:={m.rest with slice:=none}}
  grind[LH]
theorem SE(p:Program)(m:Machine):sD m.world.drawn (step p m):=by
 unfold step stepT;have h:=Tb p m;split
 ·rename_i e;rw[e]at h;exact sD.trans h (SP ..)
 ·rename_i e;rw[e]at h;exact h
theorem KV(p:Program):∀(n:Nat)(m m':Machine),runN p n m=.next m'→m.world.drawn≤m'.world.drawn
 |0,m,m',h=>by cases h;omega
 |n+1,m,m',h=>by
  rw[runN]at h;have h1:=SE p m;split at h
  ·rename_i e;rw[e]at h1;exact b0 h1 (KV p n _ _ h)
  simp_all
theorem O2{p:Program}{m m':Machine}(h:Steps p m m'):m.world.drawn≤m'.world.drawn:=by
 obtain⟨n,h⟩:=h;exact KV p n m m' h
theorem Hr{p:Program}{f:FuncId}{args:Array Value}{w:World}{R:Ending→World→Prop}(h:Calls p f args w R):Calls p f args w fun e w'=>R e w'∧((∃v,e=.returned v)→w.drawn≤w'.drawn):=by
 intro cs;obtain⟨e,w',fr,h1,h2,h3,h4⟩:=h cs;refine⟨e,w',fr,⟨h1,?_⟩,h2,h3,h4⟩
 rintro⟨v,rfl⟩
 exact O2 (m:=lone _ cs w) (m':=lone fr cs w') h2
end Go.Ev
namespace Go.Ev
open Go Go.RowKit
section
variable{P:Program}{G:eC}{pl:Pl}{M:dt}{h:AHeap}{w w':World}{f:FuncId}{args:List AV}{v:AV}
theorem cD.below(hr:cD pl M h w)(hb:Below w.heap.size w w'):cD pl M h w':=
 ⟨hr.dom,fun id p o h1 h2=>by rw[hb.block _ (hr.blk id p h1)];exact hr.obj id p o h1 h2,fun id p h1=>ET (hr.blk id p h1) hb.size,hr.inj,
  fun b c h1=>by rw[hb.block _ (hr.memLt h1)];exact hr.imm b c h1,hr.sep⟩
theorem cS.below(hb:Below w.heap.size w w')(hd:w.drawn≤w'.drawn):cS h pl M w h pl M w':=⟨m8.refl _,fun _ _ h=>h,fun _ _ h=>h,hb.size,fun b h1 _=>hb.block b h1,fun id p h=>.inl ⟨p,h,rfl⟩,fun _ _ _ h=>h,fun _ _ h _=>h,fun _ _ h=>.inl h,hb.os,hb.tape,hb.output,hd⟩
theorem bX.below(hE:∀vs w,(callFunc f vs).run P w=.ok (.enter f vs) w)
  (hC:∀(pl:Pl)(M:dt)(w:World)(vs:Array Value)(h:AHeap),pj G pl M→cD pl M h w→VRels pl M args vs→∃cv,VRel pl M v cv∧Calls P f vs w fun e w'=>e=.returned cv∧Below w.heap.size w w'):bX P G f args v:=by
 intro h pl M w vs hG hr hv;obtain⟨cv,h1,h2⟩:=hC pl M w vs h hG hr hv;refine .inl ⟨hE _ _,Calls.mono (Hr h2) fun e w' ⟨⟨he,hb⟩,hd⟩=>?_⟩;exact⟨cv,v,h,he,⟨rfl,rfl⟩,pl,M,h1,hr.below hb,cS.below hb (hd ⟨_,he⟩),au _⟩
theorem bX.calls(hGT:iP G)(hE:∀vs w,(callFunc f vs).run P w=.ok (.enter f vs) w)(hp:bX P G f args v)(hG:pj G pl M)(hr:cD pl M h w){vs:Array Value}(hv:VRels (fun _=>none) M args vs):
  Calls P f vs w fun e w'=>(∃cv pl' M',e=.returned cv∧VRel pl' M' v cv)∧Below w.heap.size w w'∧w.drawn≤w'.drawn:=by
 have r0:cD (fun _=>none) M AHeap.none w:=⟨fun _ _ h=>(by grind),fun _ _ _ h _=>(by grind),fun _ _ h=>(by grind),fun _ _ _ _ h _ _=>(by grind),hr.imm,fun _ _ h=>(by grind)⟩
 rcases hp AHeap.none (fun _=>none) M w vs (hG.none hGT) r0 hv with⟨_,h2⟩|⟨cv,w1,v1,h1,e1,_,_⟩
 ·refine Calls.mono h2 fun e w' ⟨cv,v1,h1,he,⟨e1,e2⟩,pl',M',g1,g2,g3,_⟩=>?_
  subst e1;exact⟨⟨cv,pl',M',he,g1⟩,⟨g3.os,g3.tape,g3.out,g3.size,fun b hb=>g3.kept b hb fun id p h=>(by grind)⟩,g3.drawn⟩
 ·grind
end
end Go.Ev
namespace Go.Ev
open Go
def Ql(lo hi:Int)(c:UInt8):Bool:=ak (ap (.ofNat c.toNat) lo||ap hi (.ofNat c.toNat))
abbrev kq:UInt8→Bool:=Ql 48 57
abbrev XU:UInt8→Bool:=Ql 65 90
def ed(p:UInt8→Bool)(s:aO):Nat:=(s.takeWhile p).length
section
variable{p:UInt8→Bool}{s:aO}
theorem KY:ed p s≤s.length:=(List.takeWhile_prefix p).length_le
theorem KU:∀{s:aO}{i:Nat},i<ed p s→p (gD s i)=true
 |[],i,h=>by simp_all[ed]
 | c::r,i,h=>by
  cases hc:p c with
  |false=>simp_all[ed]
  |true=>
   cases i with
   |zero=>exact hc
   |succ i=>exact KU (s:=r) (by simp_all[ed])
theorem Fo:∀{s:aO},ed p s<s.length→p (gD s (ed p s))=false
 |[],h=>by simp_all
 | c::r,h=>by
  cases hc:p c with
  |false=>simp[ed,hc,gD]
  |true=>
   have h2:ed p r<r.length:=by simp_all[ed]
   have:=Fo (s:=r) h2;simp_all[ed,gD]
theorem vV:∀{s:aO},ed p s=s.length↔s.all p=true
 |[]=>by simp[ed]
 |c::r=>by
  have ih:ed p r=r.length↔r.all p=true:=vV;cases hc:p c with
  |false=>simp[ed,hc]
  |true=>simp_all[ed]
end
theorem Wo{lo hi:Int}{c:UInt8}(h1:ap hi (.ofNat c.toNat)=true):Ql lo hi c=false:=by grind[Ql]
def kX(s:aO):Bool:=ak (ap (.ofNat (s.take (ed kq s)).length) 1)&&(ak (ap 4 (.ofNat (s.take (ed kq s)).length))&&(ak (ah (.ofNat (gD (s.take (ed kq s)) 0).toNat) 48)&&(ak (ap 3 (.ofNat (s.drop (ed kq s)).length))&&(s.drop (ed kq s)).all XU)))
def rD(s:aO):Bool:=ak (ap (.ofNat s.length) 1)&&(ak (ap 24 (.ofNat s.length))&&s.all (Ql 33 126))
def qJ(l:List aO):Bool:=ak (ap 256 (.ofNat l.length))&&l.all rD
theorem DF:({data:=#[]}:ByteArray).data.toList=([]:List UInt8):=rfl
theorem Rq(s:aO):ap (.ofNat s.length) 1=eJ s []:=by cases s<;>rfl
def dB{α:Type}(p:α→Bool):List α→Nat→Int
 |[],_=> -1
 |x::r,i=>bif p x then Int.ofNat i else dB p r (i+1)
theorem lK{α:Type}(p:α→Bool):∀(l:List α)(i:Nat),ap (dB p l i) 0=ak (l.any p)
 |[],_=>rfl
 |x::r,i=>by
  unfold dB;rw[List.any_cons];cases h:p x with
  |true=>rfl
  |false=>simp_all[lK]
section
variable{α:Type}{p:α→Bool}{l x r:List α}{w:α}{j:Nat}
theorem oK(h1:l.drop j=x)(h2:x=w::r):l.length-(w::r).length=j∧l.length-r.length=j+1:=by grind
theorem mZ(h1:l.drop j=x)(h2:x=w::r)(h3:dB p l 0=dB p (w::r) (l.length-(w::r).length))(h4:p w=true):dB p l 0=Int.ofNat j:=by rw[h3,(oK h1 h2).1,dB,h4];rfl
theorem kJ(h1:l.drop j=x)(h2:x=w::r)(h3:dB p l 0=dB p (w::r) (l.length-(w::r).length))(h4:p w=false):dB p l 0=dB p r (l.length-r.length):=by rw[h3,(oK h1 h2).1,(oK h1 h2).2,dB,h4];rfl
end
def m0(s:PStep):Bool:=ah s.kind 0&&eJ s.label []
def tV(s:PStep):Bool:=ap 0 s.kind&&(ak (ap 7 s.kind)&&kX s.label)
def OX:List PStep→Bool
 |[]=>true
 |s::r=>(m0 s||tV s)&&r.all tV
def kg(p:List PStep):Bool:=OX p&&ak (ap 9 (.ofNat p.length))
def HN(p r:List PStep):Bool:=bif Nat.beq r.length p.length then OX r else r.all tV
theorem OZ{p:List PStep}:OX p=HN p p:=by simp_all[HN]
theorem U2{p:List PStep}:HN p []=true:=by unfold HN;cases Nat.beq ([]:List PStep).length p.length<;>rfl
theorem Ep{p x r:List PStep}{w:PStep}{j:Nat}(h1:p.drop j=x)(h2:x=w::r)(h3:OX p=HN p (w::r)):OX p=((bif ah (Int.ofNat j) 0 then(m0 w||tV w)else tV w)&&HN p r):=by
 obtain⟨e1,e2⟩:=oK h1 h2;have e3:=congrArg List.length (h1.trans h2);simp only[vT,cO]at e1 e2 e3;have f1:Nat.beq r.length p.length=false:=by cases h:Nat.beq r.length p.length with|false=>rfl|true=>grind[Nat.eq_of_beq_eq_true]
 rw[h3];unfold HN;rw[f1];cases j with
 |zero=>
  have f2:Nat.beq (w::r).length p.length=true:=by simp_all
  rw[f2];rfl
 |succ j=>
  have f2:Nat.beq (w::r).length p.length=false:=by cases h:Nat.beq (w::r).length p.length with|false=>rfl|true=>simp_all
  rw[f2];rfl
def c8:Int→aO
 |0=>[98,111,111,107]
 |1=>[112,97,114,116]
 |2=>[115,101,99,116,105,111,110]
 |3=>[112,97,114,97,103,114,97,112,104]
 |4=>[116,97,98,108,101]
 |5=>[114,111,119]
 |6=>[99,101,108,108]
 |7=>[110,111,116,101]
 |_=>[]
def IY:Int→List Int
 |0=>[1,2]
 |1=>[2]
 |2=>[3,4,7]
 |3=>[3,4,7]
 |4=>[5]
 |5=>[6]
 |_=>[]
def jW(p k:Int):Bool:=(IY p).any (ah k)
theorem I2{k:Int}(h:k<0∨7<k):c8 k=[]:=by
 unfold c8;grind
theorem IV{k:Int}(h:k<0∨7<k):IY k=[]:=by
 unfold IY;grind
end Go.Ev
namespace Go.Ev
open Go Go.RowKit Go.Proofs
structure ClassOf(p:UInt8→Bool)(q:Nat→Bool):Prop where
 low:∀c:UInt8,c.toNat<128→q c.toNat=ak (p c)
 high:∀n,128≤n→q n=true
 none:∀c:UInt8,128≤c.toNat→p c=false
theorem UK{s:aO}{i:Nat}(h:i<s.length)(h2:i<ByteArray.size ⟨⟨s⟩⟩):(ByteArray.mk ⟨s⟩)[i]'h2=gD s i:=by
 simp[gD,List.getD,lh h];rfl
theorem uK{p:UInt8→Bool}{q:Nat→Bool}(hc:ClassOf p q)(s:aO):∀(f pos:Nat),pos≤ed p s→s.length≤pos+f→Lib.idxFuncFrom q true ⟨⟨s⟩⟩ f pos=(bif Nat.beq (ed p s) s.length then -1 else Int.ofNat (ed p s))
 | f,pos,h1,h2=>by
  have hl:=KY (p:=p) (s:=s);have hsz:ByteArray.size ⟨⟨s⟩⟩=s.length:=rfl;by_cases he:pos<s.length
  ·cases f with
   |zero=>omega
   | succ f=>
    unfold Lib.idxFuncFrom;rw[hsz,if_pos he];have hb:=UK he (by rw[hsz];exact he);by_cases hr:pos<ed p s
    ·have hp:=KU hr;have ha:(gD s pos).toNat<128:=by
      rcases fZ (gD s pos).toNat 128 with h|h
      ·exact h
      ·rw[hc.none _ h]at hp;cases hp
     rw[decode_ascii _ pos (by rw[hsz];exact he) (by rw[hb];exact ha),hb];rw[if_neg (by rw[hc.low _ ha,hp];decide)];exact uK hc s f (pos+1) hr (by omega)
    ·have e:ed p s=pos:=by omega
     have hp:=Fo (p:=p) (s:=s) (by omega);rw[e]at hp;have hq:q (Utf8.decode ⟨⟨s⟩⟩ pos).1=true:=by
      rcases fZ (gD s pos).toNat 128 with h|h
      ·rw[decode_ascii _ pos (by rw[hsz];exact he) (by rw[hb];exact h),hb,hc.low _ h,hp];rfl
      ·exact hc.high _ (decode_high _ pos (by rw[hsz];exact he) (by rw[hb];exact h)).1
     rw[if_pos hq,e];have f1:Nat.beq pos s.length=false:=by cases h:Nat.beq pos s.length with|false=>rfl|true=>have:=pE h;omega
     rw[f1];rfl
  ·have e:ed p s=s.length:=by omega
   rw[Lib.idxFuncFrom_end _ _ _ _ _ (by rw[hsz];exact he),e,pF];rfl
theorem wH{p:UInt8→Bool}{q:Nat→Bool}(hc:ClassOf p q)(s:aO):Lib.idxFunc q true ⟨⟨s⟩⟩=(bif Nat.beq (ed p s) s.length then -1 else Int.ofNat (ed p s)):=uK hc s _ 0 (bG _) (by show s.length≤0+s.length;omega)
section
variable{P:Program}{G:eC}{f g:FuncId}
theorem CW{pl:Pl}{M:dt}{w:World}{h:AHeap}(hGT:iP G)(hg2:∀args w,(callFunc g args).run P w=.ok (.enter g args) w){q:Nat→Bool}{qI:Int→Bool}(hp:∀r:Int,bX P G g [.int .i32 r] (.bool (qI r)))(hq:∀n:Nat,qI (.ofNat n)=q n)
  (hG:pj G pl M)(hr:cD pl M h w):PredGrows P g #[] q w:=by
 intro W x _ hb;refine Calls.mono (bX.calls hGT hg2 (hp (.ofNat x)) hG (hr.below hb) (vs:=#[.int .i32 (.ofNat x)]) ⟨rfl,fun j y hj=>?_⟩) fun e w' ⟨⟨cv,pl',M',he,hv⟩,hb',_⟩=>?_
 ·cases j with
  |zero=>simp at hj;subst hj;exact .int _ _
  |succ j=>simp_all
 grind[cases VRel]
theorem zL(hGT:iP G)(hE:∀vs w,(callFunc f vs).run P w=.ok (.enter f vs) w)(hg2:∀args w,(callFunc g args).run P w=.ok (.enter g args) w){q:Nat→Bool}{qI:Int→Bool}
  (hC:∀(s:ByteArray)(w:World),PredGrows P g #[] q w→Calls P f #[.string s,.func (.func g) #[] #[]] w fun e w'=>e=.returned (.int .i64 (Lib.idxFunc q true s))∧Below w.heap.size w w')
  (hp:∀r:Int,bX P G g [.int .i32 r] (.bool (qI r)))(hq:∀n:Nat,qI (.ofNat n)=q n){p:UInt8→Bool}(hc:ClassOf p q)(s:aO):
  bX P G f [.str s,.func (.func g) [] []] (.int .i64 (bif Nat.beq (ed p s) s.length then -1 else Int.ofNat (ed p s))):=by
 refine bX.below hE fun pl M w vs h hG hr hv=>?_
 obtain⟨a,b,rfl,hv1,hv2⟩:=AH hv;have e2:=yT hv2;subst e2;cases hv1
 rw[←wH hc s];exact⟨_,.int _ _,hC ⟨⟨s⟩⟩ w (CW hGT hg2 hp hq hG hr)⟩
theorem um(hGT:iP G)(hE:∀vs w,(callFunc f vs).run P w=.ok (.enter f vs) w)(hg2:∀args w,(callFunc g args).run P w=.ok (.enter g args) w){q:Nat→Bool}{qI:Int→Bool}
  (hC:∀(s:ByteArray)(w:World),PredGrows P g #[] q w→Calls P f #[.string s,.func (.func g) #[] #[]] w fun e w'=>e=.returned (.bool (decide (0≤Lib.idxFunc q true s)))∧Below w.heap.size w w')
  (hp:∀r:Int,bX P G g [.int .i32 r] (.bool (qI r)))(hq:∀n:Nat,qI (.ofNat n)=q n){p:UInt8→Bool}(hc:ClassOf p q)(s:aO):
  bX P G f [.str s,.func (.func g) [] []] (.bool (ak (s.all p))):=by
 refine bX.below hE fun pl M w vs h hG hr hv=>?_
 obtain⟨a,b,rfl,hv1,hv2⟩:=AH hv;have e2:=yT hv2;subst e2;cases hv1
 have e:ak (s.all p)=decide (0≤Lib.idxFunc q true ⟨⟨s⟩⟩):=by
  rw[wH hc s];cases ha:s.all p with
  |true=>rw[(vV (p:=p)).2 ha,pF];rfl
  | false=>
   have:Nat.beq (ed p s) s.length=false:=by
    cases hb:Nat.beq (ed p s) s.length with
    |false=>rfl
    |true=>grind[vV,Nat.eq_of_beq_eq_true]
   simp_all
 rw[e];exact⟨_,.bool _,hC ⟨⟨s⟩⟩ w (CW hGT hg2 hp hq hG hr)⟩
end
theorem Hh{lo hi:Nat}(h:hi<128):ClassOf (Ql (Int.ofNat lo) (Int.ofNat hi)) fun n=>ap (Int.ofNat n) (Int.ofNat lo)||ap (Int.ofNat hi) (Int.ofNat n) where
 low c _:=by unfold Ql;simp_all
 high n hn:=by rw[show ap (Int.ofNat hi) (Int.ofNat n)=true from jF (by grind)];simp_all
 none c hn:=Wo (jF (by grind))
end Go.Ev
namespace Go.Ev
open Go Go.RowKit
section
variable{P:Program}{G:eC}{f:FuncId}
theorem Iq{pl:Pl}{M:dt}{w:World}{h:AHeap}(hr:cD pl M h w){l:List aO}{a:Addr}{n cap:Nat}(hv:VRel pl M (.ps (l.map mN) false) (.slice (some a) n cap))(hne:l≠[]):
  n=l.length∧n≤cap∧a=⟨a.block,a.off,none⟩∧a.block<w.heap.size∧∀(j:Nat)(x:ByteArray),(l.map fun s=>(⟨⟨s⟩⟩:ByteArray))[j]?=some x→w.cell? ⟨a.block,a.off+j,none⟩=some (.string x):=by
 cases hv with
 | ps hl ht hm hs hc=>
  rename_i sz c;have hne':l.map mN≠[]:=by simp_all
  obtain⟨m1,m2,m3,m4⟩:=hm hne';obtain⟨t,fr,hb⟩:=hr.imm _ _ m2;have hsz:sz=1:=by
   cases l with
   |nil=>simp_all
   |cons s r=>exact((hs (mN s) (by simp)).1).symm
  subst hsz;refine⟨by simp,hl,by rw[←m1],hr.memLt m2,fun j x hj=>?_⟩;rw[pL]at hj;obtain⟨s,e1,rfl⟩:=ER.1 hj;have hlt:j<l.length:=(gj.1 e1).1;have q:=hc j (mN s) 0 (.str s) (by simp_all) rfl;rw[Nat.mul_one,py]at q;have hin:a.off+j<c.size:=by grind
  have e2:c[a.off+j]?=some (c.getD (a.off+j) undef):=by simp_all
  simp only[World.cell?,hb];simp only[Option.isSome_none,gq,if_false];rw[e2];cases hq:c.getD (a.off+j) undef<;>rw[hq]at q<;>cases q
  rfl
theorem Na(hE:∀vs w,(callFunc f vs).run P w=.ok (.enter f vs) w)
  (hC:∀(bk o c:Nat)(xs:List ByteArray)(sep:ByteArray)(w:World),(∀(j:Nat) x,xs[j]?=some x→w.cell? ⟨bk,o+j,none⟩=some (.string x))→bk<w.heap.size→xs.length≤140737488355328→xs.length≤c→
   (Lib.join (xs.map (·.data.toList)) sep.data.toList).length≤140737488355328→
   Calls P f #[.slice (some ⟨bk,o,none⟩) xs.length c,.string sep] w fun e w'=>e=.returned (.string ⟨(Lib.join (xs.map (·.data.toList)) sep.data.toList).toArray⟩)∧Below w.heap.size w w')
  (hN:∀(a:Option Addr)(c:Nat)(sep:ByteArray)(w:World),Calls P f #[.slice a 0 c,.string sep] w fun e w'=>e=.returned (.string ⟨#[]⟩)∧w'=w)
  (l:List aO)(sep:aO)(h1:l.length≤140737488355328)(h2:(Lib.join l sep).length≤140737488355328):bX P G f [.ls (l.map mN),.str sep] (.str (Lib.join l sep)):=by
 refine bX.below hE fun pl M w vs h hG hr hv=>?_
 obtain⟨a,b,rfl,hv1,hv2⟩:=AH hv;cases hv2
 have nil (p:Option Addr) (cap:Nat) (hl:l=[]):∃cv,VRel pl M (.str (Lib.join l sep)) cv∧Calls P f #[.slice p 0 cap,.string ⟨⟨sep⟩⟩] w fun e w'=>e=.returned cv∧Below w.heap.size w w':=by
  subst hl;exact⟨.string ⟨⟨[]⟩⟩,.str _,Calls.mono (hN p cap ⟨⟨sep⟩⟩ w) fun e w' ⟨he,hw⟩=>⟨he,hw▸Below.refl _ _⟩⟩
 generalize hx:l.map mN=xs at hv1;cases hv1 with
 |lsn=>simp_all
 | lsp hp ht=>
  subst hx;by_cases hl:l=[]
  ·subst hl;cases hp with
   |ps=>simp_all
  ·have hp':=hp;cases hp with
   |ps=>
    rename_i a cap sz c _ _ _ _ _;obtain⟨e1,e2,e3,e4,e5⟩:=Iq hr hp' hl;have e6:(l.map fun s=>(⟨⟨s⟩⟩:ByteArray)).map (·.data.toList)=l:=by rw[List.map_map];exact List.map_id l
    have:=hC a.block a.off cap (l.map fun s=>⟨⟨s⟩⟩) ⟨⟨sep⟩⟩ w e5 e4 (by grind) (by grind) (by grind);rw[e6,←e3,cX,←e1]at this;exact⟨.string ⟨⟨Lib.join l sep⟩⟩,.str _,this⟩
theorem Fu(hE:∀vs w,(callFunc f vs).run P w=.ok (.enter f vs) w)
  (hC:∀(s:ByteArray)(c:Nat)(w:World),c≤9223372036854775807→s.size*c≤140737488355328→Calls P f #[.string s,.int .i64 c] w fun e w'=>e=.returned (.string ⟨(Lib.repeatL s.data.toList c).toArray⟩)∧Below w.heap.size w w')
  (s:aO)(c:Nat)(h1:c≤9223372036854775807)(h2:s.length*c≤140737488355328):bX P G f [.str s,.int .i64 (.ofNat c)] (.str (Lib.repeatL s c)):=by
 refine bX.below hE fun pl M w vs h hG hr hv=>?_
 obtain⟨a,b,rfl,hv1,hv2⟩:=AH hv;cases hv1;cases hv2
 exact⟨.string ⟨⟨Lib.repeatL s c⟩⟩,.str _,hC ⟨⟨s⟩⟩ c w h1 h2⟩
theorem L4(hE:∀vs w,(callFunc f vs).run P w=.ok (.enter f vs) w)
  (hC:∀(s cs:ByteArray)(w:World),s.size≤9223372036854775807→cs.size<4294967281→(∀(j:Nat) b,cs.data.toList[j]?=some b→b.toNat<128)→
   Calls P f #[.string s,.string cs] w fun e w'=>e=.returned (.string ⟨(Lib.trimS s.data.toList cs.data.toList).toArray⟩)∧Below w.heap.size w w')
  (s cs:aO)(h1:s.length≤9223372036854775807)(h2:cs.length<4294967281)(h3:∀b,b∈cs→b.toNat<128):bX P G f [.str s,.str cs] (.str (Lib.trimS s cs)):=by
 refine bX.below hE fun pl M w vs h hG hr hv=>?_
 obtain⟨a,b,rfl,hv1,hv2⟩:=AH hv;cases hv1;cases hv2
 exact⟨.string ⟨⟨Lib.trimS s cs⟩⟩,.str _,hC ⟨⟨s⟩⟩ ⟨⟨cs⟩⟩ w h1 h2 fun j b hj=>h3 b (bg hj)⟩
end
end Go.Ev
namespace Go.Ev
open Go
structure PId where
 a:Int
 i:Int
 n:Int
 deriving Inhabited,DecidableEq
noncomputable def aV(p:PId):AV:=.agg [.int .i64 p.a,.int .i64 p.i,.int .i64 p.n]
theorem Jb(p:PId):(aV p).top=0:=rfl
def bj(u:TUnit):PId:=⟨u.act,u.item,u.n⟩
def bu(p q:PId):Bool:=ah p.a q.a&&(ah p.i q.i&&ah p.n q.n)
theorem yZ{p q:PId}(h:bu p q=true):p=q:=by
 unfold bu at h;rw[bx,bx]at h;obtain⟨a,b,c⟩:=p;obtain⟨d,e,g⟩:=q;grind[jZ]
theorem mI(p:PId):bu p p=true:=by simp[bu,bw]
abbrev fE(p:PId)(u:TUnit):Bool:=bu (bj u) p
theorem I6:KeyOf PId true 3 [(0,1),(1,1),(2,1)] aV bu where
 eq a b:=by
  show xh [.int .i64 a.a,.int .i64 a.i,.int .i64 a.n] [.int .i64 b.a,.int .i64 b.i,.int .i64 b.n] [(0,1),(1,1),(2,1)]=_
  simp only[xh,ja,Sh,Jk,kc,bu];cases h1:ah a.a b.a<;>cases h2:ah a.i b.i<;>cases h3:ah a.n b.n<;>rfl
 t a b h:=yZ h
 refl a:=mI a
 same a:=by simp[aV,mQ,jg,jE,kc,bw]
 top a:=rfl
mutual
def nU:TUnit→Nat
 |⟨_,_,_,_,_,_,_,ks⟩=>1+eW ks
def eW:List TUnit→Nat
 |[]=>0
 |k::r=>nU k+eW r
end
mutual
def mO:TUnit→Nat
 |⟨_,_,_,_,_,_,_,ks⟩=>ke ks
def ke:List TUnit→Nat
 |[]=>0
 |k::r=>Nat.max (1+mO k) (ke r)
end
mutual
def bo:TUnit→List TUnit
 |⟨x1,x2,x3,x4,x5,x6,x7,ks⟩=>⟨x1,x2,x3,x4,x5,x6,x7,ks⟩::dr ks
def dr:List TUnit→List TUnit
 |[]=>[]
 |k::r=>bo k++dr r
end
mutual
def aG(p:PId):TUnit→List TUnit
 |⟨x1,x2,x3,x4,x5,x6,x7,ks⟩=>bif fE p ⟨x1,x2,x3,x4,x5,x6,x7,ks⟩then[⟨x1,x2,x3,x4,x5,x6,x7,ks⟩]else match ch p ks with
  |[]=>[]
  |y::t=>⟨x1,x2,x3,x4,x5,x6,x7,ks⟩::y::t
def ch(p:PId):List TUnit→List TUnit
 |[]=>[]
 |k::r=>match aG p k with
  |[]=>ch p r
  |y::t=>y::t
end
theorem iT(u:TUnit):nU u=1+eW u.kids:=by cases u;rw[nU];rfl
theorem l0:eW []=0:=by rw[eW]
theorem bf(k:TUnit)(r:List TUnit):eW (k::r)=nU k+eW r:=by rw[eW]
theorem Ll(u:TUnit):mO u=ke u.kids:=by cases u;rw[mO];rfl
theorem CP:ke []=0:=by rw[ke]
theorem Jf(k:TUnit)(r:List TUnit):ke (k::r)=Nat.max (1+mO k) (ke r):=by rw[ke]
theorem da(u:TUnit):bo u=u::dr u.kids:=by cases u;rw[bo];rfl
theorem fN:dr []=[]:=by rw[dr]
theorem bM(k:TUnit)(r:List TUnit):dr (k::r)=bo k++dr r:=by rw[dr]
def dj(u:TUnit):List PId:=(bo u).map bj
def ia(l:List TUnit):List PId:=(dr l).map bj
theorem nY(u:TUnit):dj u=bj u::ia u.kids:=by unfold dj ia;rw[da];rfl
theorem rY:ia []=[]:=by unfold ia;rw[fN];rfl
theorem gK(k:TUnit)(r:List TUnit):ia (k::r)=dj k++ia r:=by grind[dj,ia,bM]
theorem Dt:∀{l:List TUnit}{k:TUnit},k∈l→nU k≤eW l
 |x::r,k,h=>by
  rw[bf];rcases eM.1 h with rfl|h
  ·omega
  ·have:=Dt h;omega
theorem iq{u k:TUnit}(h:k∈u.kids):nU k<nU u:=by rw[iT u];have:=Dt h;omega
theorem IH(u:TUnit):0<nU u:=by grind[iT]
theorem xM:∀(l:List TUnit),l.length≤eW l
 |[]=>by simp_all
 |k::r=>by
  rw[bf,cO];have:=xM r;grind[IH]
theorem bd(u:TUnit):u.kids.length<nU u:=by grind[iT,xM]
theorem MF{l:List TUnit}(h:∀k,k∈l→(bo k).length=nU k):(dr l).length=eW l:=by
 induction l with
 |nil=>rw[fN,l0];rfl
 |cons k r ih=>grind[bM,bf]
theorem FF:∀(u:TUnit),(bo u).length=nU u:=TUnit.ind fun u ih=>by grind[da,iT,MF]
theorem uV(u:TUnit):(dj u).length=nU u:=by grind[dj,FF]
theorem Ra{l:List TUnit}{n:Nat}(h:∀k,k∈l→1+mO k≤n):ke l≤n:=by
 induction l with
 |nil=>grind[CP]
 |cons k r ih=>grind[Jf]
theorem EK:∀(u:TUnit),mO u<nU u:=TUnit.ind fun u ih=>by
 have:ke u.kids≤eW u.kids:=Ra fun k hk=>by have:=ih k hk;have:=Dt hk;omega
 grind[Ll,iT]
section
variable{p:PId}{u w:TUnit}{r:List TUnit}
theorem gz(u:TUnit):aG p u=bif fE p u then[u]else match ch p u.kids with|[]=>[]|y::t=>u::y::t:=by cases u;rw[aG];rfl
theorem kn:ch p []=[]:=by rw[ch]
theorem od(k:TUnit)(r:List TUnit):ch p (k::r)=match aG p k with|[]=>ch p r|y::t=>y::t:=by rw[ch]
def cV(p:PId)(u:TUnit):Bool:=ak (aG p u).isEmpty
theorem zP(h:cV p u=false):aG p u=[]:=by grind[cV]
theorem vp(h:cV p u=true):∃y t,aG p u=y::t:=by
 unfold cV at h;cases e:aG p u with
 |nil=>grind
 |cons x r=>simp_all
theorem kR(h:cV p u=true):aG p u≠[]:=by grind[vp]
theorem qL(h:fE p u=true):aG p u=[u]:=by rw[gz,h];rfl
theorem DT(h:fE p u=true):cV p u=true:=by unfold cV;rw[qL h];rfl
theorem iE(h:cV p w=false):ch p (w::r)=ch p r:=by rw[od,zP h]
theorem nL(h:cV p w=true):ch p (w::r)=aG p w:=by grind[vp,od]
theorem OC(h:fE p u=false)(h2:ch p u.kids=ch p []):aG p u=[]:=by rw[gz,h,h2,kn];rfl
theorem Gu(h:fE p u=false)(h2:ch p u.kids=ch p []):cV p u=false:=by unfold cV;rw[OC h h2];rfl
theorem JO(h:fE p u=false)(h2:ch p u.kids=ch p (w::r))(h3:cV p w=true):aG p u=u::aG p w:=by grind[gz,nL,vp]
theorem T9(h:fE p u=false)(h2:ch p u.kids=ch p (w::r))(h3:cV p w=true):cV p u=true:=by unfold cV;rw[JO h h2 h3];rfl
end
theorem lP{p:PId}:∀(u:TUnit),(aG p u).length≤nU u:=TUnit.ind fun u ih=>by
 rw[gz];cases fE p u with
 |true=>exact IH u
 | false=>
  have key:∀(r:List TUnit),(∀k,k∈r→k∈u.kids)→(ch p r).length≤eW r:=by
   intro r;induction r with
   |nil=>grind[kn]
   |cons k r ihr=>grind[od,bf]
  grind[iT]
def bb:TUnit:=⟨0,0,0,0,[],[],[],[]⟩
noncomputable def ef(p:PId)(u:TUnit):TUnit:=bif cV p u then gD (aG p u) ((aG p u).length -1)else bb
theorem JR{p:PId}:∀(u:TUnit)(x:TUnit),x∈aG p u→x∈bo u:=TUnit.ind fun u ih=>by
 intro x hx;rw[gz]at hx;rw[da];cases h:fE p u with
 |true=>simp_all
 | false=>
  rw[h]at hx;simp only[cond_false]at hx;have key:∀(r:List TUnit),(∀k,k∈r→k∈u.kids)→∀x,x∈ch p r→x∈dr r:=by
   intro r;induction r with
   |nil=>grind[kn]
   |cons k r ihr=>grind[od,bM]
  grind
noncomputable def pe(p:Int×aO):AV:=.agg [.int .i64 p.1,.str p.2]
def mL(a b:Int×aO):Bool:=ah a.1 b.1&&eJ a.2 b.2
theorem Aq:∀(s:aO),eJ s s=true
 |[]=>rfl
 |c::r=>by simp only[eJ,Aq r,Bool.and_true];simp_all
theorem RU:∀{a b:aO},eJ a b=true→a=b
 |[],[],_=>rfl
 |c::r,d::q,h=>by
  simp only[eJ,bx]at h;rw[RU h.2,UInt8.toNat_inj.1 (pE h.1)]
theorem LV:KeyOf (Int×aO) true 2 [(0,1),(1,2)] pe mL where
 eq a b:=by
  show xh [.int .i64 a.1,.str a.2] [.int .i64 b.1,.str b.2] [(0,1),(1,2)]=_
  simp only[xh,ja,Sh,Jk,kc,mL];cases h1:ah a.1 b.1<;>cases h2:eJ a.2 b.2<;>rfl
 t a b h:=by
  simp only[mL,bx]at h;grind[jZ,RU]
 refl a:=by simp[mL,bw,Aq]
 same a:=by simp[pe,mQ,jg,jE,kc,bw,Aq]
 top a:=rfl
noncomputable def dw(b:Bool):AV:=.bool b
theorem Aw(b:Bool):(dw b).top=0:=rfl
def Oy{K:Type}(keq:K→K→Bool)(k:K)(l:List (K×Bool)):Bool:=(nD keq k l).getD false
section
variable{K:Type}{ag:Bool}{sz:Nat}{lv:List (Nat×Nat)}{kenc:K→AV}{keq:K→K→Bool}
theorem GW(hk:KeyOf K ag sz lv kenc keq)(m:List (K×Bool))(k:K):dZ (some (.bool false)) false (bQ ag sz lv (kenc k) (cQ kenc dw m 0) 0)=some (.bool (Oy keq k m)):=by
 rw[zl hk];unfold Oy;cases nD keq k m with
 |none=>rfl
 |some v=>rfl
theorem JS(hk:KeyOf K ag sz lv kenc keq)(m:List (K×Bool))(k:K):nM (cQ kenc dw m 0) m.length (kenc k) (.bool true) (bQ ag sz lv (kenc k) (cQ kenc dw m 0) 0)=some (cQ kenc dw (ft keq k true m) 0,(ft keq k true m).length):=BL (f:=dw) hk k true m
end
def oa(l:List PWord):Bool:=ak (ap 256 (.ofNat l.length))&&qJ (l.map fun w=>w.text)
def mE(pk:Int):List TUnit→List ((Int×aO)×Bool)→Bool
 |[],_=>true
 |k::r,m=>jW pk k.kind&&(ak (Oy mL (k.kind,k.label) m)&&mE pk r (ft mL (k.kind,k.label) true m))
def lH(u:TUnit):Bool:=(bif ah u.kind 0 then eJ u.label []&&ak (ap 0 (.ofNat (u.head.length+u.words.length)))else ak (eJ (c8 u.kind) [])&&(kX u.label&&(oa u.head&&oa u.words)))&&(mE u.kind u.kids []&&ak (ap 64 (.ofNat u.kids.length)))
def vN(q:TUnit→Bool)(u:TUnit):Bool:=(bo u).all q
theorem yU(q:TUnit→Bool)(u:TUnit):vN q u=(q u&&(dr u.kids).all q):=by grind[vN,da]
theorem OQ(q:TUnit→Bool):(dr []).all q=true:=by rw[fN];rfl
theorem AO(q:TUnit→Bool)(k:TUnit)(r:List TUnit):(dr (k::r)).all q=(vN q k&&(dr r).all q):=by rw[bM,List.all_append];rfl
def B7(l:List PId)(m:List (PId×Bool)):List (PId×Bool):=l.foldl (fun m p=>ft bu p true m) m
def bT:PId:=⟨0,0,0⟩
def Qt(u:TUnit):Bool:=(Oy bu bT (B7 (dj u) [])&&ah (.ofNat (B7 (dj u) []).length) 1)||(ah (.ofNat (B7 (dj u) []).length) (.ofNat (dj u).length)&&(ah u.kind 0==fE bT u))
def ko(u:TUnit):Bool:=vN lH u&&(ak (ap 8 (.ofNat (mO u)))&&(ak (ap 1024 (.ofNat (nU u)))&&Qt u))
theorem bA{u k:TUnit}(h:k∈u.kids){x:TUnit}(hx:x∈bo k):x∈bo u:=by
 rw[da];refine eN _ ?_;generalize u.kids=l at h;induction l with
 |nil=>grind
 |cons y r ih=>grind[bM]
theorem dq(u:TUnit):u∈bo u:=by grind[da]
theorem LK{u k:TUnit}(h:k∈u.kids):k∈bo u:=bA h (dq k)
end Go.Ev
namespace Go.Ev
open Go
def dz{α:Type}(q:α→α→Bool):List α→List α→Bool
 |[],[]=>true
 |x::l,y::m=>q x y&&dz q l m
 |_,_=>false
theorem oW{α:Type}{q:α→α→Bool}:∀{l m:List α},l.length≠m.length→dz q l m=false
 |[],[],h=>absurd rfl h
 |[],y::m,_=>rfl
 |x::l,[],_=>rfl
 |x::l,y::m,h=>by
  unfold dz;rw[oW (l:=l) (m:=m) (fun e=>h (by simp[e]))];exact wW _
section
variable{α:Type}[Inhabited α]{q:α→α→Bool}{l m x r:List α}{w:α}{j:Nat}
theorem yW{m:List α}{j:Nat}(h:j<m.length):m.drop j=gD m j::m.drop (j+1):=by grind[List.drop_eq_getElem_cons,gD]
theorem kS(h1:l.drop j=x)(h2:x=w::r)(hl:l.length=m.length)(h3:dz q l m=dz q (w::r) (m.drop (l.length-(w::r).length))):dz q l m=(q w (gD m j)&&dz q r (m.drop (l.length-r.length))):=by
 have e:=congrArg List.length (h1.trans h2);simp only[vT,cO]at e;rw[h3,(oK h1 h2).1,(oK h1 h2).2,yW (by omega),dz]
omit [Inhabited α]in
theorem qo(hl:l.length=m.length)(h3:dz q l m=dz q [] (m.drop (l.length-([]:List α).length))):dz q l m=true:=by rw[h3,gm,Nat.sub_zero,hl,List.drop_length];rfl
end
def Ob(a b:PWord):Bool:=eJ a.text b.text&&(ah a.act b.act&&(ah a.item b.item&&ah a.at_ b.at_))
mutual
def vC:TUnit→TUnit→Bool
 |⟨a,i,n,k,l,h,w,ks⟩,v=>bu ⟨a,i,n⟩ (bj v)&&(ah k v.kind&&(eJ l v.label&&(dz Ob h v.head&&(dz Ob w v.words&&NE ks v.kids))))
def NE:List TUnit→List TUnit→Bool
 |[],[]=>true
 |k::r,[]=>false
 |k::r,x::s=>vC k x&&NE r s
 |[],x::s=>false
end
theorem WS(u v:TUnit):vC u v=(bu (bj u) (bj v)&&(ah u.kind v.kind&&(eJ u.label v.label&&(dz Ob u.head v.head&&(dz Ob u.words v.words&&dz vC u.kids v.kids))))):=by
 have key:∀(l m:List TUnit),NE l m=dz vC l m:=by
  intro l;induction l with
  |nil=>intro m;cases m<;>(rw[NE];rfl)
  |cons x l ih=>intro m;cases m with|nil=>rw[NE];rfl|cons y m=>rw[NE,ih];rfl
 cases u
 rw[vC,key];rfl
end Go.Ev
namespace Go.Ev
open Go
def H5(u v:AV):Prop:=(Sc v→Sc u)∧Les u.cells v.cells
theorem H5.refl(v:AV):H5 v v:=⟨id,Les.refl _⟩
theorem H5.one{u v:AV}(hu:u.cells=[u])(hv:v.cells=[v])(hs:cF u=true)(h:Le u v):H5 u v:=⟨fun _ y hy=>by simp_all,by rw[hu,hv];exact .cons h .nil⟩
inductive LesC:List AV→List AV→Prop
 |nil:LesC [] []
 |cons {u v:AV} {us vs:List AV} (h:H5 u v) (k:LesC us vs):LesC (u::us) (v::vs)
theorem LesC.len{us vs:List AV}(h:LesC us vs):us.length=vs.length:=by
 induction h with
 |nil=>rfl
 |cons _ _ ih=>simp_all
theorem LesC.at_{us vs:List AV}(h:LesC us vs):∀(j:Nat)(u:AV),us[j]?=some u→∃v,vs[j]?=some v∧H5 u v:=by
 induction h with
 |nil=>simp_all
 |cons h k ih=>grind
theorem EC{xs ys:List AV}{t:Bool}(h:LesC xs ys):Le (.ps xs false) (.ps ys t):=fun pl M v hv=>by
 cases hv with
 | @ps _ _ a cap sz c hl ht hm hs hc=>
  rw[←h.len];refine .ps (sz:=sz) (c:=c) (by rw[h.len];omega) (fun h=>by grind) (fun hx=>?_) (fun x hx=>?_) fun i x j y hx hy=>?_
  ·have:ys≠[]:=fun e=>hx (rC (by rw[h.len,e];rfl))
   rw[h.len];simp_all
  ·obtain⟨i,hi⟩:=BB hx;obtain⟨y,h1,h2,h3⟩:=h.at_ i x hi;have:=hs y (bg h1);exact⟨h3.len.trans this.1,h2 this.2⟩
  ·obtain⟨z,h1,_,h3⟩:=h.at_ i x hx;obtain⟨d,h4,h5⟩:=h3.at_ j y hy;exact h5 _ _ _ (hc i z j d h1 h4)
theorem Xn{xs ys:List AV}{t:Bool}(h:LesC xs ys)(h0:aq xs=0):Le (.ls xs) (.ps ys t):=fun pl M v hv=>.lsp (EC h pl M v hv) h0
theorem Xo{xs ys:List AV}(h:LesC xs ys)(h0:aq xs=0):Le (.ls xs) (.ls ys):=fun pl M v hv=>by
 cases hv with
 |lsn=>cases h;exact .lsn
 |lsp hv _=>exact .lsp (EC h pl M v hv) h0
theorem Le.pls{x:AV}{xs ys:List AV}(h:LesC (x::xs) ys):Le (.ps (x::xs) false) (.ls ys):=fun pl M v hv=>by
 cases hv with
 |lsn=>cases h
 |lsp hv _=>exact EC h pl M v hv
mutual
def EL:AV→AV→Bool
 | .ls xs,.nils=>xs.isEmpty
 | .ls xs,.ps ys _=>na xs ys&&Nat.beq (aq xs) 0
 | .ls xs,.ls ys=>na xs ys&&Nat.beq (aq xs) 0
 | .ps (x::xs) false,.ls ys=>na (x::xs) ys
 | .ps xs false,.ps ys _=>na xs ys
 | .agg us,.agg vs=>na us vs&&us.all cF
 |u,v=>AV.same u v
def na:List AV→List AV→Bool
 |[],[]=>true
 |a::us,b::vs=>EL a b&&na us vs
 |_,_=>false
end
theorem H5.same{u v:AV}(h:AV.same u v=true):Le u v∧H5 u v:=by grind[AV.same_eq,Le.refl,H5.refl]
mutual
theorem vR:∀(u v:AV),EL u v=true→Le u v∧H5 u v:=fun u v h=>by
 unfold EL at h;split at h
 ·rename_i xs;have e:xs=[]:=by simp_all
  subst e;exact⟨Le.nils,H5.one rfl rfl rfl Le.nils⟩
 ·rename_i xs ys t;have h:=pv.1 h;have k:=Xn (t:=t) (kI xs ys h.1).2 (pE h.2);exact⟨k,H5.one rfl rfl rfl k⟩
 ·rename_i xs ys;have h:=pv.1 h;have k:=Xo (kI xs ys h.1).2 (pE h.2);exact⟨k,H5.one rfl rfl rfl k⟩
 ·rename_i x xs ys;have k:=Le.pls (kI (x::xs) ys h).2;exact⟨k,H5.one rfl rfl rfl k⟩
 ·rename_i xs ys t;have k:=EC (t:=t) (kI xs ys h).2;exact⟨k,H5.one rfl rfl rfl k⟩
 ·rename_i us vs;have h:=pv.1 h;have k:=kI us vs h.1;exact⟨bZ k.1 h.2,fun _ y hy=>lL.1 h.2 y hy,k.1⟩
 ·exact H5.same h
theorem kI:∀(us vs:List AV),na us vs=true→Les us vs∧LesC us vs:=fun us vs h=>by
 unfold na at h;split at h
 ·exact⟨.nil,.nil⟩
 ·rename_i a us b vs;have h:=pv.1 h;have h1:=vR a b h.1;have h2:=kI us vs h.2;exact⟨.cons h1.1 h2.1,.cons h1.2 h2.2⟩
 ·grind
end
section
variable{P:Program}{G:eC}{f:FuncId}{a b:List AV}{u v:AV}
theorem bX.args(h:bX P G f a v)(hl:Les a b):bX P G f b v:=fun hp pl M w vs hg hr hv=>h hp pl M w vs hg hr (hv.le hl)
theorem bX.lessB(h:bX P G f a v)(hl:EL u v=true):bX P G f a u:=h.less (vR _ _ hl).1
theorem WJ(a b:Nat):Cc (.ofNat a) (.ofNat b)=.ofNat (Nat.max a b):=by
 unfold Cc;cases h:ap (.ofNat a) (.ofNat b)with
 |true=>
  have h:=am h;grind
 |false=>
  have h:=aE h;simp_all
theorem pd{xs ys:List AV}{i t:Nat}{r:List (Nat×Nat)}{x y:AV}{e c:Bool}(hx:ja xs i=some x)(hy:ja ys i=some y)(h:Jk t x y=some e)(k:xh xs ys r=some c):xh xs ys ((i,t)::r)=some (e&&c):=by
 simp only[xh,hx,hy,Sh,h];cases e with
 |true=>exact k
 |false=>rfl
theorem CG{xs ys:List AV}{i t:Nat}{r:List (Nat×Nat)}{x y:AV}{e:Bool}(hx:ja xs i=some x)(hy:ja ys i=some y)(h:Jk t x y=some e)(k:xh xs ys r=some true):xh xs ys ((i,t)::r)=some e:=by
 simp only[xh,hx,hy,Sh,h];cases e with
 |true=>exact k
 |false=>rfl
theorem Eo{d:Option TypeDesc}{n:Nat}{l:List (Nat×Nat)}{xs ys:List AV}{c:Bool}{H:AHeap}(hn:(Nat.beq xs.length n&&Nat.beq ys.length n)=true)(hl:xh xs ys l=some c):
  bv H (Sr (pu .eql d (some true) (some n) (some l)) (some (.agg xs)) (some (.agg ys)))=some (.val (.bool c) H):=by
 grind[Sr,pu,W0,oG,bv]
theorem En{d:Option TypeDesc}{n:Nat}{l:List (Nat×Nat)}{xs ys:List AV}{c:Bool}{H:AHeap}(hn:(Nat.beq xs.length n&&Nat.beq ys.length n)=true)(hl:xh xs ys l=some c):
  bv H (Sr (pu .neq d (some true) (some n) (some l)) (some (.agg xs)) (some (.agg ys)))=some (.val (.bool (!c)) H):=by
 grind[Sr,pu,W0,oG,bv]
end
end Go.Ev
namespace Go.Ev
open Go
theorem bX.ls0{P:Program}{G:eC}{f:FuncId}{r:List AV}{v:AV}(h1:bX P G f (.nils::r) v)(h2:bX P G f (.ps [] false::r) v):bX P G f (.ls []::r) v:=fun h=>EF (fun _ _ _ hv=>VRels.first hv fun _ hv=>hv.ls0) (h1 h) (h2 h)
theorem Q5{p:PId}{u:TUnit}(h:cV p u=true):ef p u∈aG p u:=by
 unfold ef;rw[h];have:=pI.2 (kR h);grind[ge]
theorem Sq:∀(u:TUnit),mS u=(bo u).flatMap nQ:=by
 refine TUnit.ind fun u ih=>?_
 rw[LN,da,List.flatMap_cons];congr 1;have key:∀(l:List TUnit),(∀k,k∈l→k∈u.kids)→kf l=(dr l).flatMap nQ:=by
  intro l;induction l with
  |nil=>intro _;rw[DW,fN];rfl
  |cons k r ihr=>grind[sS,bM]
 simp_all
theorem OD{p:PId}:∀(u:TUnit),cV p u=true→bj (ef p u)=p:=by
 refine TUnit.ind fun u ih h=>?_
 unfold ef;rw[h];simp only[cond_true];cases hh:fE p u with
 |true=>rw[qL hh];exact yZ hh
 | false=>
  have key:∀(r:List TUnit),(∀k,k∈r→k∈u.kids)→ch p r≠[]→bj (gD (ch p r) ((ch p r).length -1))=p:=by
   intro r;induction r with
   |nil=>grind[kn]
   |cons k r ihr=>grind[nL,ef,iE]
  have k2:=key u.kids fun _ h=>h
  obtain⟨y,t,e⟩:=vp h;rw[gz,hh]at e ⊢;grind[gD]
theorem Lw{p:PId}:∀(u:TUnit),(∃x,x∈bo u∧bj x=p)→cV p u=true:=by
 refine TUnit.ind fun u ih ⟨x,hx,hp⟩=>?_
 cases hh:fE p u with
 |true=>grind[DT]
 | false=>
  rw[da]at hx;rcases eM.1 hx with rfl|hx
  ·simp_all[fE,mI]
  ·have key:∀(l:List TUnit),(∀k,k∈l→k∈u.kids)→x∈dr l→ch p l≠[]:=by
    intro l;induction l with
    |nil=>grind[fN]
    |cons k r ihr=>grind[bM,cV,nL,iE]
   grind[cV,gz]
theorem Ca{α β:Type}{f:α→β}:∀{l:List α},(l.map f).Nodup→∀{x y:α},x∈l→y∈l→f x=f y→x=y
 | a::l,h,x,y,hx,hy,e=>by
  rw[eD,List.nodup_cons]at h;rcases eM.1 hx with h1|h1
  ·grind
  ·rcases eM.1 hy with h2|h2
   ·simp_all
   ·exact Ca h.2 h1 h2 e
theorem CM{K V:Type}{kenc:K→AV}{f:V→AV}:∀(l:List (K×V))(i:Nat),(cQ kenc f l i).length=l.length
 |[],_=>rfl
 |(k,v)::r,i=>by rw[cQ,cO,CM r,cO]
theorem MK(m:List (PId×Bool)):B7 [] m=m:=rfl
theorem RY{n:Nat}(h:0<n):ah (Int.ofNat n) 0=false:=by grind[rj]
def CC(p:PId):TUnit→Option TUnit:=fun u=>(bo u).find? (fE p)
theorem Sn{p:PId}:∀(u:TUnit),(cV p u=true→CC p u=some (ef p u))∧(cV p u=false→CC p u=none):=by
 refine TUnit.ind fun u ih=>?_
 unfold CC;rw[da];cases hh:fE p u with
 |true=>
  rw[List.find?_cons_of_pos (by omega)];refine⟨fun h=>?_,fun h=>by grind[DT]⟩;unfold ef;rw[h,qL hh];rfl
 | false=>
  rw[List.find?_cons_of_neg (by simp_all)];have key:∀(r:List TUnit),(∀k,k∈r→k∈u.kids)→(ch p r≠[]→(dr r).find? (fE p)=some (gD (ch p r) ((ch p r).length -1)))∧(ch p r=[]→(dr r).find? (fE p)=none):=by
   intro r;induction r with
   |nil=>grind[kn,fN]
   |cons k r ihr=>
    intro hm;have ik:=ih k (hm k (eu ..));have ir:=ihr fun z hz=>hm z (eN _ hz)
    rw[bM,List.find?_append];cases hk:cV p k with
    |true=>grind[CC,nL,kR,ef]
    |false=>grind[CC,iE]
  have k2:=key u.kids fun _ h=>h
  refine⟨fun h=>?_,fun h=>?_⟩
  ·obtain⟨y,t,e⟩:=vp h;unfold ef;rw[h,gz,hh];rw[gz,hh]at e;grind[gD]
  ·have e:=zP h;grind[gz]
theorem gy(p:PId)(u:TUnit):fE p u=true↔bj u=p:=⟨yZ,fun h=>by simp_all[fE,mI]⟩
theorem Ir{y x:TUnit}:∀(u:TUnit),y∈bo u→x∈bo y→x∈bo u:=by
 refine TUnit.ind fun u ih h hx=>?_
 rw[da]at h ⊢;rcases eM.1 h with rfl|h
 ·grind[da]
 ·refine eN _ ?_;have key:∀(l:List TUnit),(∀k,k∈l→k∈u.kids)→y∈dr l→x∈dr l:=by
   intro l;induction l with
   |nil=>grind[fN]
   |cons k r ihr=>grind[bM]
  simp_all
theorem iH{y x u:TUnit}(h:y∈bo u)(hx:x∈bo y):x∈bo u:=Ir u h hx
theorem Pd{x:TUnit}:∀(u:TUnit),x∈bo u→nU x≤nU u:=by
 refine TUnit.ind fun u ih h=>?_
 rw[da]at h;rcases eM.1 h with rfl|h
 ·omega
 ·have key:∀(l:List TUnit),(∀k,k∈l→k∈u.kids)→x∈dr l→nU x<nU u:=by
   intro l;induction l with
   |nil=>grind[fN]
   |cons k r ihr=>grind[bM,Nat.lt_of_le_of_lt,iq]
  grind
theorem dM{x u:TUnit}(h:x∈bo u):nU x≤nU u:=Pd u h
section
variable{p:PId}{u w:TUnit}{r:List TUnit}
end
end Go.Ev
namespace Go.Ev
open Go
def kV(a b:PStep):Bool:=ah a.kind b.kind&&eJ a.label b.label
mutual
def EZ:PItem→PItem→Bool
 |⟨k,a,t,w,n,u,o,ne,l,f,s,ac,im,d,e,bs⟩,v=>
  (ah k v.kind&&(ah w v.where_&&(ah n v.nth_&&(ah ac v.act&&(ah im v.item&&ah d v.day)))))
  &&((eJ l v.label&&(eJ f v.for_&&(eJ e v.event&&(ah s.kind v.start.kind&&(ah s.day v.start.day&&eJ s.event v.start.event)))))
  &&((dz kV a v.at_&&(dz kV t v.to&&(dz eJ o v.old&&dz eJ ne v.new)))
  &&(vC u v.unit&&CH bs v.by_)))
def CH:List PItem→List PItem→Bool
 |[],[]=>true
 |k::r,[]=>false
 |k::r,x::s=>EZ k x&&CH r s
 |[],x::s=>false
end
theorem RV:∀(l m:List PItem),CH l m=dz EZ l m:=by
 intro l;induction l with
 |nil=>intro m;cases m<;>(rw[CH];rfl)
 |cons x l ih=>intro m;cases m with|nil=>rw[CH];rfl|cons y m=>rw[CH,ih];rfl
theorem Uy(u v:PItem):EZ u v=((ah u.kind v.kind&&(ah u.where_ v.where_&&(ah u.nth_ v.nth_&&(ah u.act v.act&&(ah u.item v.item&&ah u.day v.day)))))
  &&((eJ u.label v.label&&(eJ u.for_ v.for_&&(eJ u.event v.event&&(ah u.start.kind v.start.kind&&(ah u.start.day v.start.day&&eJ u.start.event v.start.event)))))
  &&((dz kV u.at_ v.at_&&(dz kV u.to v.to&&(dz eJ u.old v.old&&dz eJ u.new v.new)))
  &&(vC u.unit v.unit&&dz EZ u.by_ v.by_)))):=by
 cases u
 rw[EZ,RV];rfl
noncomputable def Ds(s:aO):Bool:=ak (ap (.ofNat s.length) 1)&&(ak (ap 16 (.ofNat s.length))&&(ak (ap (.ofNat (gD s 0).toNat) 97)&&(ak (ap 122 (.ofNat (gD s 0).toNat))&&eJ (Lib.trimS s [97,98,99,100,101,102,103,104,105,106,107,108,109,110,111,112,113,114,115,116,117,118,119,120,121,122,48,49,50,51,52,53,54,55,56,57,45]) [])))
def re(n:Bool)(s:PStart):Bool:=bif ah s.kind 0||ah s.kind 2 then ah s.day 0&&eJ s.event []else bif ah s.kind 1 then(ak (ap s.day 0)&&ak (ap 1048576 s.day))&&eJ s.event []else bif ah s.kind 3 then ah s.day 0&&n else false
end Go.Ev
namespace Go.Ev
open Go
def bC(s:PStep)(u:TUnit):Bool:=ah u.kind s.kind&&eJ u.label s.label
def gk:List PStep→List TUnit→List TUnit
 |[],l=>l
 |s::r,l=>gk r (l.flatMap fun x=>x.kids.filter (bC s))
def dS(u:TUnit)(p:List PStep):List TUnit:=bif kg p then(match p with
 |[]=>[u]
 |s::r=>gk r (bif m0 s then[u]else(bo u).filter (bC s)))else[]
noncomputable def aF(u:TUnit)(p:List PStep):PId×Int:=match dS u p with
 |[]=>(bT,7)
 |[x]=>(bj x,0)
 |_=>(bT,8)
def hJ(p:PId)(u:TUnit):Bool:=ak (ap (.ofNat (aG p u).length) 2)
noncomputable def IK(p:PId)(u:TUnit):TUnit:=gD (aG p u) ((aG p u).length -2)
noncomputable def se(p:PId)(u:TUnit):PId:=bif hJ p u then bj (IK p u)else bT
noncomputable def qY(p:PId)(u:TUnit):Int:=bif hJ p u then dB (cV p) (IK p u).kids 0 else -1
def pA(p:PId)(u:TUnit):List PId:=(((aG p u).take ((aG p u).length -1)).map bj).reverse
structure PSpot where
 id:PId
 at_:Int
 deriving Inhabited
noncomputable def fz(s:PSpot):AV:=.agg [.int .i64 s.id.a,.int .i64 s.id.i,.int .i64 s.id.n,.int .i64 s.at_]
def dG:PSpot:=⟨bT,0⟩
noncomputable def ny(u:TUnit)(p:PId)(n:Int):PSpot×Int:=bif hJ p u then(⟨se p u,qY p u+n⟩,0)else(dG,9)
noncomputable def dc(w:Int)(u:TUnit)(p:PId):PSpot×Int:=bif ah w 0 then(⟨p,0⟩,0)else bif ah w 1 then(⟨p,.ofNat (ef p u).kids.length⟩,0)else bif ah w 2 then ny u p 1 else ny u p 0
def ie(n:Int):Bool:=ak (ap n 0)&&ak (ap 3 n)
def cp(act item:Int):List aO→Nat→List PWord
 |[],_=>[]
 |s::r,n=>⟨s,act,item,.ofNat n⟩::cp act item r (n+1)
def b6(l:List PWord):List aO:=l.map fun w=>w.text
theorem fO(a i:Int):∀(l:List aO)(n:Nat),(cp a i l n).length=l.length
 |[],_=>rfl
 |s::r,n=>by rw[cp,cO,fO a i r,cO]
mutual
def cP(a i:Int):TUnit→Nat→Nat→TUnit
 |⟨_,_,_,k,l,h,ws,ks⟩,n,w=>⟨a,i,.ofNat (n+1),k,l,cp a i (b6 h) w,cp a i (b6 ws) (w+h.length),fV a i ks (n+1) (w+h.length+ws.length)⟩
def fV(a i:Int):List TUnit→Nat→Nat→List TUnit
 |[],_,_=>[]
 |k::r,n,w=>cP a i k n w::fV a i r (n+nU k) (w+(mS k).length)
end
theorem BS(a i:Int)(u:TUnit)(n w:Nat):cP a i u n w=⟨a,i,.ofNat (n+1),u.kind,u.label,cp a i (b6 u.head) w,cp a i (b6 u.words) (w+u.head.length),fV a i u.kids (n+1) (w+u.head.length+u.words.length)⟩:=by cases u;rw[cP];rfl
theorem Fq(a i:Int)(n w:Nat):fV a i [] n w=[]:=by rw[fV]
theorem Dz(a i:Int)(k:TUnit)(r:List TUnit)(n w:Nat):fV a i (k::r) n w=cP a i k n w::fV a i r (n+nU k) (w+(mS k).length):=by rw[fV]
def va(part:List aO):Nat→List aO→Nat→List Nat
 |0,_,_=>[]
 |f+1,l,i=>bif Nat.ble (i+part.length) l.length then(bif dz eJ ((l.drop i).take part.length) part then i::va part f l (i+part.length)else va part f l (i+1))else[]
def tG(l part:List aO):List Nat:=bif part.isEmpty then[]else va part (l.length+1) l 0
end Go.Ev
namespace Go.Ev
open Go
def oO(w:PWord):Bool:=ak (ah w.act 0&&(ah w.item 0&&ah w.at_ 0))
def C9(x:TUnit):Bool:=fE bT x&&(ak (x.head.any oO)&&ak (x.words.any oO))
def HE(u:TUnit):Bool:=ko u&&vN C9 u
def gF(w:PWord):PWord:=⟨w.text,0,0,0⟩
mutual
def cE:TUnit→TUnit
 |⟨_,_,_,k,l,h,w,ks⟩=>⟨0,0,0,k,l,h.map gF,w.map gF,tJ ks⟩
def tJ:List TUnit→List TUnit
 |[]=>[]
 |k::r=>cE k::tJ r
end
theorem yo:∀(l:List TUnit),tJ l=l.map cE
 |[]=>by rw[tJ];rfl
 |k::r=>by rw[tJ,yo r];rfl
theorem mK(u:TUnit):cE u=⟨0,0,0,u.kind,u.label,u.head.map gF,u.words.map gF,u.kids.map cE⟩:=by cases u;rw[cE,yo];rfl
theorem QB{p:PId}{u:TUnit}(h:cV p u=false):hJ p u=false:=by unfold hJ;rw[zP h];rfl
theorem V5{p:PId}{u:TUnit}(h:hJ p u=false):se p u=bT:=by unfold se;simp_all
theorem Po{p:PId}{u:TUnit}(h:hJ p u=false):qY p u= -1:=by unfold qY;simp_all
theorem Is{p:PId}{u:TUnit}(h:hJ p u=true):se p u=bj (IK p u):=by unfold se;simp_all
theorem It{p:PId}{u:TUnit}(h:hJ p u=true):qY p u=dB (cV p) (IK p u).kids 0:=by unfold qY;simp_all
def oq(p:PId)(u:TUnit)(k:Nat):List PId:=((((aG p u).take ((aG p u).length -1)).drop k).map bj).reverse
theorem Em(p:PId)(u:TUnit):oq p u 0=pA p u:=rfl
theorem DX(p:PId)(u:TUnit):oq p u ((aG p u).length -1)=[]:=by
 unfold oq;simp_all
theorem AN(p:PId)(u:TUnit){k:Nat}(h:k+1<(aG p u).length):oq p u k=oq p u (k+1)++[bj (gD (aG p u) k)]:=by
 unfold oq;have h1:k<((aG p u).take ((aG p u).length -1)).length:=by grind
 rw[Oe h1,eD,List.reverse_cons];grind[gD]
theorem DZ(p:PId)(u:TUnit)(k:Nat):(oq p u k).length≤(aG p u).length:=by grind[oq]
def lQ(s:PStep)(u:TUnit):List TUnit:=(bo u).filter (bC s)
def dx(s:PStep)(l:List TUnit):List TUnit:=(dr l).filter (bC s)
theorem zQ(s:PStep)(u:TUnit):lQ s u=(bif bC s u then[u]else[])++dx s u.kids:=by
 unfold lQ dx;rw[da,List.filter_cons];grind
theorem mB(s:PStep):dx s []=[]:=by unfold dx;rw[fN];rfl
theorem gp(s:PStep)(k:TUnit)(r:List TUnit):dx s (k::r)=lQ s k++dx s r:=by grind[lQ,dx,bM]
theorem mq(s:PStep)(u:TUnit):(lQ s u).length≤nU u:=by grind[lQ,FF]
theorem si:∀(l m:List TUnit),eW (l++m)=eW l+eW m
 |[],m=>by rw[l0,wX,fw]
 |x::r,m=>by rw[yy,bf,bf,si r m,Nat.add_assoc]
theorem zy(q:TUnit→Bool):∀(l:List TUnit),eW (l.filter q)≤eW l
 |[]=>by simp_all
 |x::r=>by
  rw[List.filter_cons,bf];have:=zy q r;cases q x with
  |true=>rw[if_pos rfl,bf];omega
  |false=>grind
theorem zw(q:TUnit→Bool):∀(l:List TUnit),eW (l.flatMap fun x=>x.kids.filter q)≤eW l
 |[]=>by simp_all
 |x::r=>by
  rw[List.flatMap_cons,si,bf];have:=zw q r;grind[zy,iT]
theorem KR{n:Nat}:∀(l:List TUnit),(∀x,x∈l→nU x≤n)→eW l≤n*l.length
 |[],_=>by simp_all[l0]
 |x::r,h=>by
  rw[bf,cO,Nat.mul_add,Nat.mul_one];have:=h x (eu ..);have:=KR r fun y hy=>h y (eN _ hy)
  omega
theorem F5(s:PStep)(u:TUnit)(hp:∀x,x∈bo u→nU x≤nU u):eW (lQ s u)≤nU u*nU u:=by
 have h1:=KR (n:=nU u) (lQ s u) fun x hx=>hp x (List.mem_filter.1 hx).1
 exact b0 h1 (Nat.mul_le_mul_left _ (mq s u))
theorem Iz(l:List TUnit):gk [] l=l:=rfl
theorem JJ{u:TUnit}{p:List PStep}(h:kg p=false):dS u p=[]:=by unfold dS;simp_all
theorem GH{u:TUnit}(h:kg []=true):dS u []=[u]:=by unfold dS;simp_all
theorem GI{u:TUnit}{s:PStep}{r:List PStep}(h:kg (s::r)=true)(hb:m0 s=true):dS u (s::r)=gk r [u]:=by
 unfold dS;simp_all
theorem wM{u:TUnit}{s:PStep}{r:List PStep}(h:kg (s::r)=true)(hb:m0 s=false):dS u (s::r)=gk r (lQ s u):=by
 unfold dS;rw[h];show gk r (bif m0 s then[u]else(bo u).filter (bC s))=_
 rw[hb];rfl
def cn(s:PStep)(l:List TUnit):List TUnit:=l.flatMap fun x=>x.kids.filter (bC s)
section
variable{s:PStep}{l m r r1 X:List TUnit}{w w1:TUnit}{n N:Nat}{rs0:List PStep}{R at0:List TUnit}
theorem I3:cn s []=[]:=rfl
theorem wE:cn s (w::r)=w.kids.filter (bC s)++cn s r:=by grind[cn]
theorem Ix(rs:List PStep):gk (s::rs) l=gk rs (cn s l):=rfl
theorem F6:eW (cn s l)≤eW l:=zw _ l
theorem fA(h:R=gk (s::rs0) l∧eW l≤N)(e:cn s []=cn s l):R=gk rs0 []∧eW []≤N:=⟨by rw[h.1,Ix,←e];rfl,by simp_all[l0]⟩
theorem fB(h:R=gk (s::rs0) l∧eW l≤N)(e:m++cn s []=cn s l):R=gk rs0 m∧eW m≤N:=by grind[I3,Ix,F6]
theorem gA(h:cn s (w1::r1)=X):w1.kids.filter (bC s)++cn s r1=X:=wE.symm.trans h
theorem gB(h:n=m.length∧m++cn s (w1::r1)=X∧m.length+eW (w1::r1)<N):n=m.length∧m++(w1.kids.filter (bC s)++cn s r1)=X∧m.length+(eW w1.kids+eW r1)<N:=⟨h.1,wE (s:=s)▸h.2.1,by grind[bf,iT]⟩
theorem Z2(h:(w::r).filter (bC s)++cn s r1=X)(q:bC s w=false):r.filter (bC s)++cn s r1=X:=by simp_all
theorem Z1(h:n=m.length∧m++((w::r).filter (bC s)++cn s r1)=X∧m.length+(eW (w::r)+eW r1)<N)(q:bC s w=false):n=m.length∧m++(r.filter (bC s)++cn s r1)=X∧m.length+(eW r+eW r1)<N:=⟨h.1,by simp_all,by grind[bf]⟩
theorem Z0(h:n=m.length∧m++((w::r).filter (bC s)++cn s r1)=X∧m.length+(eW (w::r)+eW r1)<N)(q:bC s w=true):n+1=(m++[w]).length∧(m++[w])++(r.filter (bC s)++cn s r1)=X∧(m++[w]).length+(eW r+eW r1)<N:=⟨by simp_all,by simp_all,by grind[IH,bf]⟩
end
section
variable{p:PId}{u:TUnit}{i:Int}{l:List PId}
theorem N8(hn:i=Int.ofNat (aG p u).length -2)(h0:ap i 0=false):[bj (gD (aG p u) i.toNat)]=oq p u (i-1+1).toNat:=by
 have h0:=aE h0;simp only[aP]at hn;have e:(i-1+1).toNat=i.toNat:=by omega
 rw[e,AN p u (k:=i.toNat) (by omega),show i.toNat+1=(aG p u).length -1 by omega,DX,wX]
theorem HM(h:l=oq p u (i+1).toNat)(hi:i+2≤(aG p u).length)(h0:ap i 0=false):l++[bj (gD (aG p u) i.toNat)]=oq p u (i-1+1).toNat:=by
 have h0:=aE h0;grind[AN]
theorem SK(h:l=oq p u (i+1).toNat)(hi: -1≤i)(h0:ap i 0=true):l=pA p u:=by
 have h0:=am h0;rw[h,show(i+1).toNat=0 by omega,Em]
theorem SJ(hn:i=Int.ofNat (aG p u).length -2)(h0:ap i 0=true):pA p u=[]:=by
 have h0:=am h0;simp only[aP]at hn;rw[←Em];have:(aG p u).length -1=0:=by omega
 grind[DX]
end
theorem KD{s:PStep}{l m:List TUnit}(h:dx s l=m)(hm:m≠[]):l≠[]:=by grind[mB]
theorem VH(l:List TUnit){z:AV}(hz:z.top=0):aq (l.map aK++[z])=0:=jP.2 fun x hx=>by grind[iQ]
theorem oB{l x r:List TUnit}{w:TUnit}{j:Nat}(h1:l.drop j=x)(h2:x=w::r):nU w+eW r≤eW l:=by
 have e:l=l.take j++(w::r):=by grind[List.take_append_drop]
 grind[si,bf]
end Go.Ev
namespace Go.Ev
open Go
def qW(l:List aO)(n:Int):Bool:=qJ l&&ak (ap (.ofNat l.length) n)
def Bw(n:Int):Bool:=ak (ap n 0)&&ak (ap 256 n)
theorem JW{u:TUnit}(p:List PStep)(h:nU u≤2^11):(dS u p).length≤2^22:=by
 have key:∀(rs:List PStep)(l:List TUnit),eW (gk rs l)≤eW l:=by
  intro rs;induction rs with
  |nil=>intro l;exact au _
  |cons s r ih=>grind[Ix,F6]
 unfold dS;cases kg p with
 |false=>simp_all
 | true=>
  simp only[cond_true];cases p with
  |nil=>simp_all
  | cons s r=>
   simp only[];refine b0 (xM _) (b0 (key r _) ?_);cases m0 s with
   |true=>grind[bf,l0]
   |false=>
    simp only[cond_false];have h1:=F5 s u fun x hx=>dM hx
    have h2:nU u*nU u≤2^11*2^11:=Nat.mul_le_mul h h;exact b0 h1 h2
theorem GT{u:TUnit}{p:List PStep}(h:dS u p=[]):aF u p=(bT,7):=by grind[aF]
theorem GS{u x:TUnit}{p:List PStep}(h:dS u p=[x]):aF u p=(bj x,0):=by grind[aF]
theorem GR{u x y:TUnit}{r:List TUnit}{p:List PStep}(h:dS u p=x::y::r):aF u p=(bT,8):=by grind[aF]
def xU(own:PId)(i:Int)(ok:Bool)(n:Int):PSpot×Int:=bif ok then(⟨own,i+n⟩,0)else(dG,9)
def CX(e:Int)(sp:PSpot)(e2:Int):PSpot×Int:=bif ah e 0 then(bif ah e2 0 then(sp,0)else(dG,e2))else(dG,e)
def nC(p q own:PId)(at_:Int)(ok c bs:Bool)(sp:PSpot)(e:Int):PSpot×Int:=
 bif ak ok||((ak (bu q p)&&c)||(bu q p&&ak bs))then(dG,9)
 else bif bu q p then(⟨own,at_⟩,0)
 else bif ah e 0&&(bu sp.id own&&ap at_ sp.at_)then(⟨sp.id,sp.at_-1⟩,e)else(sp,e)
end Go.Ev
