/- An abstract machine for runs of the program, proved sound against the model: part 6. No conditions. -/
import Derived.Test.YtiodnhiainjfgaaGreatDoorMach5
import Derived.Shelf.SortM.Plain
import Derived.Shelf.SortM.SortNone
import Derived.Shelf.SlSortCmp.NoneTotal
import Derived.Shelf.SlicesG.CompactI
import Derived.Lib.QuietBelow
import GoSem.ClaimJoined
import Derived.Calls
import Derived.RunT
import Derived.Below
import Derived.Shelf.Strings.FuncGrows
import Derived.Laws.RangeAny
import Derived.Lib.Join
import Derived.Lib.Repeat
import Derived.Lib.SlTrimSet
namespace Go.Ev
open Go Go.Sort Go.Proofs
section
variable{P:Program}{G:ee}{pl:Pl}{M:da}{h:AHeap}{w w':World}
theorem sl(hr:cp pl M h w){id:Nat}{p:Place}{sz:Nat}{op:Bool}{ep:Nat}{xs xs':List AV}{c c':Array Value}{t:TypeId}(hp:pl id=some p)(hg:h.get id=some (.row sz op ep xs))
  (hb:w.heap[p.blk]?=some (.cells c t (0,0)))(hw:w'.heap[p.blk]?=some (.cells c' t (0,0)))(hcs:c'.size=c.size)(hlen:xs'.length=xs.length)(hel:∀x,x∈xs'→x.cells.length=sz∧Sc x)
  (hcell:∀i x j y,xs'[i]?=some x→x.cells[j]?=some y→VRel pl M y (c'.getD (i*sz+j) undef))(hs:WSame w w')(hsz:w.heap.size≤w'.heap.size)(hk:∀b,b<w.heap.size→b≠p.blk→w'.heap[b]?=w.heap[b]?):
  cp pl M (h.put id (.row sz op ep xs')) w'∧cM h pl M w (h.put id (.row sz op ep xs')) pl M w':=by
 have ho:=hr.obj id p _ hp hg;rw[hb]at ho;simp only[bf]at ho;obtain⟨h1,h2,h3,h4,h5,h6,h7,h8⟩:=ho;have e:=xT (pl:=pl) hp;have:=cp.change (p':=p) (o':=.row sz op ep xs') hr hp hg (.inl rfl) hs hsz hk (.inl rfl) (vn.1 hw).1 (by
  rw[e,hw];simp only[bf];refine⟨h1,h2,by omega,by omega,trivial,h6,fun e=>by simp_all,⟨?_,hel,fun i x j y q1 q2=>?_⟩⟩
  ·grind[cases InMem]
  simp_all)
 simp_all
variable{β:Type}[Inhabited β]
theorem qx{enc:β→Value}{blk off n:Nat}{d:Array β}{os:Array Obj}{c:Array Value}{t:TypeId}{fr:Nat×Nat}(hb:w.heap[blk]?=some (.cells c t fr)):
  (grow (putRow enc (Sort.ahead w n) blk off d) os).heap[blk]?=some (.cells (putCells enc off d c) t fr):=by
 grind[grow,putRow,mapBlock,Sort.ahead,onCells]
theorem j8{enc:β→Value}{blk off n:Nat}{d:Array β}{os:Array Obj}{b:Nat}(hb:b<w.heap.size)(hne:b≠blk):
  (grow (putRow enc (Sort.ahead w n) blk off d) os).heap[b]?=w.heap[b]?:=by
 simp only[grow,putRow,mapBlock,Sort.ahead];grind
theorem ng{enc:β→Value}{blk off n:Nat}{d:Array β}{os:Array Obj}:WSame w (grow (putRow enc (Sort.ahead w n) blk off d) os):=⟨rfl,rfl,rfl,Nat.le_add_right _ _⟩
theorem AE{enc:β→Value}{blk off n:Nat}{d:Array β}{os:Array Obj}:w.heap.size≤(grow (putRow enc (Sort.ahead w n) blk off d) os).heap.size:=by simp_all
theorem na{enc:β→Value}{d:Array β}{c:Array Value}{k:Nat}(hk:k<d.size)(hc:k<c.size):(putCells enc 0 d c).getD k undef=enc d[k]!:=by simp_all[putCells]
theorem pH(hr:cp pl M h w){id ep len sz:Nat}{op:Bool}{cap:Option Nat}{xs:List AV}{x:Value}(hv:VRel pl M (.slice id ep 0 len cap) x)(hg:h.get id=some (.row sz op ep xs))(hl:0<len):
  ∃p c t cap',pl id=some p∧w.heap[p.blk]?=some (.cells c t (0,0))∧x=.slice (some ⟨p.blk,0,none⟩) len cap'∧InMem pl M c 0 sz xs∧0<sz∧p.blk<w.heap.size:=by
 cases hv with
 | slice hp he hle hk ha=>
  rename_i cap' a p;have ho:=hr.obj id p _ hp hg;cases hb:w.heap[p.blk]? with
  |none=>grind[bf]
  |some ob=>
   rw[hb]at ho;cases ob<;>simp only[bf]at ho
   rename_i c t fr;obtain⟨h1,h2,h3,h4,h5,h6,h7,h8⟩:=ho;subst h5;obtain⟨k1,_⟩:=ha (by omega);have k2:a=⟨p.blk,0,none⟩:=by grind
   exact⟨p,c,t,_,hp,hb,by rw[k2],h8,h6,(vn.1 hb).1⟩
def du(zs:List Int):List Int:=zs.mergeSort fun x y=>decide (x≤y)
theorem kg(zs:List Int):(du zs).Perm zs:=List.mergeSort_perm ..
theorem CI(zs:List Int):(du zs).Pairwise (fun a b=>a≤b):=by
 have:=List.pairwise_mergeSort (le:=fun x y:Int=>decide (x≤y)) (by grind) (by grind) zs;exact this.imp (by simp)
theorem BT{c:Array Value}{sz:Nat}{xs:List AV}(hm:InMem pl M c 0 sz xs){i:Nat}{x:AV}(hx:xs[i]?=some x){j:Nat}(hj:j<sz):i*sz+j<c.size∧∃y,x.cells[j]?=some y∧VRel pl M y (c.getD (i*sz+j) undef):=by
 have h1:=hm.fit;have hi:=(gV.1 hx).1;have h2:=(hm.elem x (bb hx)).1;have h3:(i+1)*sz≤xs.length*sz:=eb _ hi;rw[jl]at h3;refine⟨by omega,x.cells[j],by simp_all,?_⟩;have:=hm.cell i x j _ hx (kM (by omega:j<x.cells.length));simp_all
theorem Ao{f:FuncId}(hE:∀vs w,(callFunc f vs).run P w=.ok (.enter f vs) w)
  (hC:∀(blk off cap:Nat)(zs:List Int)(w:World),Holds (Value.int .i64) w blk off zs.toArray→blk<w.heap.size→zs.length<4611686018427387904→
   Calls P f #[.slice (some ⟨blk,off,none⟩) zs.length cap] w fun e w'=>e=.returned (.tuple #[])∧∃n os,w'=grow (putRow (Value.int .i64) (Sort.ahead w n) blk off (zs.mergeSort fun x y=>decide (x≤y)).toArray) os)
  {id ep:Nat}{op:Bool}{cap:Option Nat}(zs:List Int)(hg:h.get id=some (.row 1 op ep (zs.map bK)))(hz:0<zs.length)(hb:zs.length<4611686018427387904):
  aE P G f [.slice id ep 0 zs.length cap] h (fun v h'=>v=.tuple []∧h'=h.put id (.row 1 op ep ((du zs).map bK))):=by
 intro pl M w vs hG hr hv;obtain⟨a,rfl,hv1⟩:=Q8 hv;obtain⟨p,c,t,cap',hp,hbl,rfl,hm,_,hlt⟩:=pH hr hv1 hg hz;have hcell:∀j z,zs[j]?=some z→j<c.size∧c.getD j undef=.int .i64 z:=by
  intro j z hj;have hx:(zs.map bK)[j]?=some (bK z):=by simp_all
  obtain⟨q1,y,q2,q3⟩:=BT hm hx (j:=0) (by omega);rw[Nat.mul_one,pq]at q1 q3;simp[bK,AV.cells]at q2;subst q2;refine⟨q1,?_⟩;cases hq:c.getD j undef<;>rw[hq]at q3<;>cases q3
  rfl
 refine .inl ⟨hE _ _,Calls.mono (hC p.blk 0 cap' zs w (fun j hj=>?_) hlt hb) fun e w' ⟨he,n,os,hw⟩=>?_⟩
 ·have hj':j<zs.length:=by omega
  obtain⟨q1,q2⟩:=hcell j zs[j] (kM hj');rw[gQ];refine⟨?_,?_⟩
  ·simp only[World.cell?,hbl];simp only[Option.isSome_none,gZ,if_false];rw[Ek q1];simp_all
  grind[World.frozen?]
 ·refine⟨.tuple #[],.tuple [],_,he,⟨rfl,rfl⟩,pl,M,qr,?_⟩;have hlen:(du zs).length=zs.length:=(kg zs).length_eq;have hw1:w'.heap[p.blk]?=some (.cells (putCells (Value.int .i64) 0 (du zs).toArray c) t (0,0)):=by rw[hw];exact qx hbl
  obtain⟨r1,r2⟩:=sl (w':=w') (xs':=(du zs).map bK) hr hp hg hbl hw1 (by simp[putCells]) (by simp_all) (fun x hx=>by
    obtain⟨z,_,rfl⟩:=jg.1 hx;exact⟨rfl,fun y hy=>by simp[bK,AV.cells]at hy;subst hy;rfl⟩) (fun i x j y q1 q2=>by
    rw[pu]at q1;obtain⟨z,e1,rfl⟩:=Ej.1 q1;have hi:=(gV.1 e1).1;cases j with
    |succ j=>grind[bK,AV.cells]
    |zero=>
     simp[bK,AV.cells]at q2;subst q2;rw[Nat.mul_one,pq,na (by omega) (hcell i zs[i] (kM (by omega))).1];have:(du zs).toArray[i]! =z:=by simp_all
     rw[this];exact .int _ _) (by grind[ng]) (by simp_all) (fun b hb hne=>by grind[j8])
  exact⟨r1,r2,ah _⟩
def bx(zs:List Int):List Int:=Lib.compact zs
theorem wm(zs:List Int):(bx zs).length≤zs.length:=by grind[bx,Lib.compact,Lib.compactUpTo]
theorem vk{f:FuncId}(hE:∀vs w,(callFunc f vs).run P w=.ok (.enter f vs) w)
  (hC:∀(blk off cap:Nat)(zs:List Int)(w:World),Holds (Value.int .i64) w blk off zs.toArray→zs.length≤9223372036854775807→zs.length≤cap→
   Calls P f #[.slice (some ⟨blk,off,none⟩) zs.length cap] w fun e w'=>e=.returned (.slice (some ⟨blk,off,none⟩) (Lib.compact zs).length cap)∧∃q,w'=putRow (Value.int .i64) (Sort.ahead w q) blk off (Lib.compact zs++List.replicate (zs.length-(Lib.compact zs).length) 0).toArray)
  {id ep:Nat}{op:Bool}(zs:List Int)(hg:h.get id=some (.row 1 op ep (zs.map bK)))(hz:0<zs.length)(hb:zs.length<4611686018427387904):
  aE P G f [.slice id ep 0 zs.length none] h (fun v h'=>v=.slice id ep 0 (bx zs).length none∧h'=h.put id (.row 1 op ep ((bx zs++List.replicate (zs.length-(bx zs).length) 0).map bK))):=by
 intro pl M w vs hG hr hv;obtain⟨a,rfl,hv1⟩:=Q8 hv;obtain⟨p,c,t,cap',hp,hbl,rfl,hm,_,hlt⟩:=pH hr hv1 hg hz;have hcell:∀j z,zs[j]?=some z→j<c.size∧c.getD j undef=.int .i64 z:=by
  intro j z hj;have hx:(zs.map bK)[j]?=some (bK z):=by simp_all
  obtain⟨q1,y,q2,q3⟩:=BT hm hx (j:=0) (by omega);rw[Nat.mul_one,pq]at q1 q3;simp[bK,AV.cells]at q2;subst q2;refine⟨q1,?_⟩;cases hq:c.getD j undef<;>rw[hq]at q3<;>cases q3
  rfl
 have hle:=wm zs;have hcap:zs.length≤cap':=by grind[cases VRel]
 generalize hnew:bx zs++List.replicate (zs.length-(bx zs).length) 0=ns;have hnl:ns.length=zs.length:=by grind
 refine .inl ⟨hE _ _,Calls.mono (hC p.blk 0 cap' zs w (fun j hj=>?_) (by omega) hcap) fun e w' ⟨he,n,hw⟩=>?_⟩
 ·have hj':j<zs.length:=by omega
  obtain⟨q1,q2⟩:=hcell j zs[j] (kM hj');rw[gQ];refine⟨?_,?_⟩
  ·simp only[World.cell?,hbl];simp only[Option.isSome_none,gZ,if_false];rw[Ek q1];simp_all
  grind[World.frozen?]
 ·have hw2:w'=grow (putRow (Value.int .i64) (Sort.ahead w n) p.blk 0 ns.toArray) #[]:=by rw[hw,grow_empty];congr 2
  have hrel:VRel pl M (.slice id ep 0 (bx zs).length none) (.slice (some ⟨p.blk,0,none⟩) (bx zs).length cap'):=by
   cases hv1 with
   |slice hp he hl hk ha=>
    refine .slice hp he (by omega) hk fun e=>?_
    grind
  refine⟨_,_,_,he,⟨rfl,rfl⟩,pl,M,hrel,?_⟩;have hw1:w'.heap[p.blk]?=some (.cells (putCells (Value.int .i64) 0 ns.toArray c) t (0,0)):=by grind[qx]
  obtain⟨r1,r2⟩:=sl (w':=w') (xs':=ns.map bK) hr hp hg hbl hw1 (by simp[putCells]) (by simp_all) (fun x hx=>by
    obtain⟨z,_,rfl⟩:=jg.1 hx;exact⟨rfl,fun y hy=>by simp[bK,AV.cells]at hy;subst hy;rfl⟩) (fun i x j y q1 q2=>by
    rw[pu]at q1;obtain⟨z,e1,rfl⟩:=Ej.1 q1;have hi:=(gV.1 e1).1;cases j with
    |succ j=>grind[bK,AV.cells]
    |zero=>
     simp[bK,AV.cells]at q2;subst q2;rw[Nat.mul_one,pq,na (by omega) (hcell i zs[i] (kM (by omega))).1];have:ns.toArray[i]! =z:=by simp_all
     rw[this];exact .int _ _) (by grind[ng]) (by simp_all) (fun b hb hne=>by grind[j8])
  exact⟨r1,r2,ah _⟩
theorem CL{f:FuncId}(hE:∀vs w,(callFunc f vs).run P w=.ok (.enter f vs) w)
  (hC:∀(p:Option Addr)(cap:Nat)(w:World),Calls P f #[.slice p 0 cap] w fun e w'=>e=.returned (.tuple #[])∧w'=w):aI P G f [.nils] (.tuple []):=by
 intro h pl M w vs hG hr hv;obtain⟨a,rfl,hv1⟩:=Q8 hv;cases hv1
 exact .inl ⟨hE _ _,Calls.mono (hC none 0 w) fun e w' ⟨he,hw⟩=>⟨.tuple #[],.tuple [],h,he,⟨rfl,rfl⟩,pl,M,qr,by simp_all[StepF.refl]⟩⟩
theorem ur{f:FuncId}{g:Fn}(hE:∀vs w,(callFunc f vs).run P w=.ok (.enter f vs) w)
  (hC:∀(p:Option Addr)(cap:Nat)(fv:Value)(w:World),Calls P f #[.slice p 0 cap,fv] w fun e w'=>e=.returned (.tuple #[])∧w'=w):aI P G f [.nils,.func g [] []] (.tuple []):=by
 intro h pl M w vs hG hr hv;obtain⟨a,b,rfl,hv1,hv2⟩:=Aq hv;cases hv1
 exact .inl ⟨hE _ _,Calls.mono (hC none 0 b w) fun e w' ⟨he,hw⟩=>⟨.tuple #[],.tuple [],h,he,⟨rfl,rfl⟩,pl,M,qr,by simp_all[StepF.refl]⟩⟩
def DY{α:Type}(cmp:α→α→Int)(a b:α):Bool:=decide (cmp a b<0)
theorem Ap{f g:FuncId}{sz:Nat}(hGT:iD G)(hE:∀vs w,(callFunc f vs).run P w=.ok (.enter f vs) w)(hg2:∀args w,(callFunc g args).run P w=.ok (.enter g args) w)
  (hC:∀(m:Nat)(enc:Fin (m+1)→List Value)(cf:Fin (m+1)→Fin (m+1)→Int)(blk off cap:Nat)(d:Array (Fin (m+1)))(w:World),(∀x,(enc x).length=sz)→(∀x,∀v∈enc x,v.oneCell'=true)→SWO (ltOf cf)→
   CmpLays P g #[] enc sz cf blk off d.size w→HoldsK enc sz w blk off d→blk<w.heap.size→d.size<4611686018427387904→
   Calls P f #[.slice (some ⟨blk,off,none⟩) d.size cap,.func (.func g) #[] #[]] w fun e w'=>e=.returned (.tuple #[])∧∃d' n os,PermIn 0 d.size d d'∧SortedIn (ltOf cf) 0 d.size d'∧w'=sortWorldK enc sz w blk off n d' os)
  {α:Type}[Inhabited α](enc:α→AV)(cmp:α→α→Int)(hO:SWO (DY cmp))(hag:∀a,∃cs,enc a=.agg cs)(htop:∀a,(enc a).top=0)
  (l:List α)(hcmp:∀a,a∈l→∀b,b∈l→aI P G g [enc a,enc b] (.int .i64 (cmp a b)))
  {oid ep:Nat}{op:Bool}{cap:Option Nat}(hg:h.get oid=some (.row sz op ep (l.map enc)))(hz:0<l.length)(hb:l.length<4611686018427387904):
  aE P G f [.slice oid ep 0 l.length cap,.func (.func g) [] []] h (fun v h'=>∃l':List α,(l'.Perm l∧l'.Pairwise fun a b=>DY cmp b a=false)∧v=.tuple []∧h'=h.put oid (.row sz op ep (l'.map enc))):=by
 intro pl M w vs hG hr hv;obtain⟨a,fv,rfl,hv1,hv2⟩:=Aq hv;have e2:=yh hv2;subst e2;obtain⟨p,c,t,cap',hp,hbl,rfl,hm,hsz0,hlt⟩:=pH hr hv1 hg hz;obtain⟨m,hm1⟩:∃m,l.length=m+1:=⟨l.length-1,by omega⟩
 have hfit:=hm.fit;rw[b6,gQ,hm1]at hfit;have helem:∀i:Fin (m+1),(l.map enc)[i.1]?=some (enc l[i.1]!):=fun i=>by
  have:=i.2;rw[pu,kM (by omega),getElem!_pos l i.1 (by omega)];rfl
 have hmul:∀i:Fin (m+1),i.1*sz+sz≤(m+1)*sz:=fun i=>by have:=eb sz (Nat.succ_le_of_lt i.2);rwa[pA]at this
 generalize hcof:(fun i:Fin (m+1)=>(List.range sz).map fun j=>c.getD (i.1*sz+j) undef)=cellsOf;have cl:∀i,(cellsOf i).length=sz:=fun i=>by rw[←hcof];simp
 have cg:∀i j,j<sz→(cellsOf i)[j]?=some (c.getD (i.1*sz+j) undef):=fun i j hj=>by rw[←hcof];simp[hj]
 generalize hd:(Array.ofFn (n:=m+1) id)=d;have hds:d.size=m+1:=by rw[←hd];simp
 have hdg:∀j (hj:j<m+1),d[j]! =⟨j,hj⟩:=fun j hj=>by rw[getElem!_pos d j (by omega)];subst hd;simp
 have hflat:∀(dk:Array (Fin (m+1))),dk.size=m+1→∀i j,i<m+1→j<sz→(flatK cellsOf sz dk)[i*sz+j]! =c.getD ((dk[i]!).1*sz+j) undef:=fun dk hdk i j hi hj=>by
  have h1:i*sz+j<dk.size*sz:=by have:=eb sz (Nat.succ_le_of_lt hi);rw[pA]at this;rw[hdk];omega
  rw[get_flatK cellsOf sz dk _ h1];have h2:(i*sz+j)/sz=i:=by rw[Nat.mul_comm,Nat.mul_add_div hsz0,Nat.div_eq_of_lt hj,pq]
  have h3:(i*sz+j)%sz=j:=by rw[Nat.mul_comm,Nat.mul_add_mod,Nat.mod_eq_of_lt hj]
  rw[h2,h3,getElem!_pos _ j (by rw[cl];exact hj)];have:=cg (dk[i]!) j hj;rw[kM (by rw[cl];exact hj)]at this;simpa using this
 have hH:HoldsK cellsOf sz w p.blk 0 d:=by
  intro k hk;rw[size_flatK,hds]at hk;have hi:k/sz<m+1:=Nat.div_lt_of_lt_mul (by rw[Nat.mul_comm];exact hk);have hj:k%sz<sz:=Nat.mod_lt _ hsz0;have hk2:k/sz*sz+k%sz=k:=by rw[Nat.mul_comm];exact Nat.div_add_mod k sz
  have:=hflat d hds (k/sz) (k%sz) hi hj;rw[hdg _ hi,hk2]at this;rw[this,gQ];have hkc:k<c.size:=by omega
  refine⟨?_,by simp[World.frozen?,hbl]⟩;simp only[World.cell?,hbl];simp only[Option.isSome_none,gZ,if_false];rw[Ek hkc];simp[Array.getD,hkc]
 have hrelE:∀(i:Fin (m+1)) cs,enc l[i.1]! =.agg cs→cs.length=sz∧(∀y,y∈cs→cA y=true)∧∀(j:Nat)(y:AV),cs[j]?=some y→VRel pl M y (c.getD (i.1*sz+j) undef):=by
  intro i cs hcs;have h1:=hm.elem _ (bb (helem i));rw[hcs]at h1;refine⟨h1.1,h1.2,fun j y hj=>?_⟩;have:=hm.cell i.1 _ j y (helem i) (by rw[hcs];exact hj);rwa[gQ]at this
 have hone:∀i,∀v∈cellsOf i,v.oneCell'=true:=by
  intro i v hvm;obtain⟨j,hj,e⟩:=Ex hvm;rw[cl]at hj;have h1:=cg i j hj;rw[kM (by rw[cl];exact hj),e]at h1;obtain⟨cs,hcs⟩:=hag l[i.1]!;obtain⟨k1,k2,k3⟩:=hrelE i cs hcs;have:=k3 j cs[j] (kM (by omega));cases h1
  exact this.one (k2 _ (Ct _))
 have hmemL:∀i:Fin (m+1),l[i.1]!∈l:=fun i=>by
  have:=i.2;rw[getElem!_pos l i.1 (by omega)];exact Ct _
 have hlays:CmpLays P g #[] cellsOf sz (fun i j=>cmp l[i.1]! l[j.1]!) p.blk 0 d.size w:=by
  intro n os dk hdk x y;generalize hW:sortWorldK cellsOf sz w p.blk 0 n dk os=W;have hWo:∀b,b<w.heap.size→b≠p.blk→W.heap[b]?=w.heap[b]?:=fun b h1 h2=>by rw[←hW];exact j8 h1 h2
  have hrW:cp (fun _=>none) M AHeap.none W:=pP (pl:=fun _=>none) (n:=0) (g:=AHeap.none.get) ⟨fun _ _ h=>by simp at h,fun _ _ _ h=>by simp at h,fun _ _ h=>by simp at h,fun _ _ _ _ h=>by simp at h,fun b c' hM=>by
   obtain⟨t',fr,q⟩:=hr.imm b c' hM;refine⟨t',fr,?_⟩;rw[hWo b (hr.memLt hM) (fun e=>by have:=hr.sep oid p hp;rw[←e,hM]at this;cases this)];exact q,fun _ _ h=>by simp at h⟩
  have hrel:∀i:Fin (m+1),VRel (fun _=>none) M (enc l[i.1]!) (.agg (cellsOf i).toArray):=by
   intro i;obtain⟨cs,hcs⟩:=hag l[i.1]!;obtain⟨k1,k2,k3⟩:=hrelE i cs hcs;have ht:=htop l[i.1]!;rw[hcs]at ht ⊢;refine .agg (by simp[cl,k1]) k2 fun j y hj=>?_
   have hj':j<sz:=by rw[←k1];exact(gV.1 hj).1
   have e:(cellsOf i).toArray.getD j undef=c.getD (i.1*sz+j) undef:=by
    have:=cg i j hj';rw[gd,nE,this];rfl
   rw[e];exact(k3 j y hj).none (jL.1 ht y (bb hj))
  have hc:=hcmp _ (hmemL x) _ (hmemL y) AHeap.none (fun _=>none) M W #[.agg (cellsOf x).toArray,.agg (cellsOf y).toArray] (hG.none hGT) hrW ⟨rfl,fun j z hj=>by
   match j,hj with
   |0,hj=>cases hj;exact hrel x
   |1,hj=>cases hj;exact hrel y⟩
  rcases hc with⟨h1,h2⟩|⟨cv,w',v,h',h1,h2,h3⟩
  ·refine Calls.mono h2 fun e w' ⟨cv,v,h',k1,k2,pl',M',k3,k4,k5,k6⟩=>?_
   obtain⟨k2,_⟩:=k2;subst k2;cases k3
   refine⟨k1,?_⟩;obtain⟨q,hq⟩:=regrown_of_below (w:=W) (w':=w') ⟨k5.os,k5.tape,k5.out,k5.size,fun b hb=>k5.kept b hb fun id p h=>by simp at h⟩;refine⟨w'.drawn-W.drawn,q.os,?_⟩;have hd1:w'.drawn=q.d:=by rw[hq];rfl
   have hd2:=k5.drawn;have:redrawn W q.d=W.drewN (w'.drawn-W.drawn):=by
    show({W with drawn:=q.d}:World)={W with drawn:=W.drawn+(w'.drawn-W.drawn)}
    congr 1;omega
   rw[←this];exact hq
  ·rw[hg2]at h1;cases h1
 refine .inl ⟨hE _ _,?_⟩;have hcall:=hC m cellsOf (fun i j=>cmp l[i.1]! l[j.1]!) p.blk 0 cap' d w cl hone ⟨fun x=>hO.irrefl _,fun x y z=>hO.trans _ _ _,fun x y z=>hO.ntrans _ _ _⟩ hlays hH hlt (by omega);rw[show d.size=l.length by omega]at hcall;refine Calls.mono hcall fun e w' ⟨he,d',n,os,hP,hS,hw⟩=>?_
 obtain⟨hp1,_,hp3⟩:=hP;have hd's:d'.size=m+1:=by omega
 have hperm:d'.toList.Perm d.toList:=by
  have e1:d'.extract 0 l.length=d':=by rw[show l.length=d'.size by omega];exact Array.extract_size
  have e2:d.extract 0 l.length=d:=by rw[show l.length=d.size by omega];exact Array.extract_size
  rwa[e1,e2]at hp3
 have hdl:d.toList.map (fun i=>l[i.1]!)=l:=by
  apply List.ext_getElem?;intro i;by_cases hi:i<l.length
  ·rw[pu,Array.getElem?_toList,Ek (by omega),kM hi];have:=hdg i (by omega);rw[getElem!_pos d i (by omega)]at this;rw[this];show some (l[i]!)=some l[i]
   rw[getElem!_pos l i hi]
  ·rw[List.getElem?_eq_none (by simp;omega),List.getElem?_eq_none (by omega)]
 have hl':(d'.toList.map (fun i=>l[i.1]!)).length=l.length:=by simp;omega
 refine⟨.tuple #[],.tuple [],_,he,⟨d'.toList.map (fun i=>l[i.1]!),⟨?_,?_⟩,rfl,rfl⟩,pl,M,qr,?_⟩
 ·have:=hperm.map (fun i=>l[i.1]!);rwa[hdl]at this
 ·rw[I0];intro i j hi hj hij;have hi':i<d'.size:=by simpa using hi
  have hj':j<d'.size:=by simpa using hj
  have:=hS i j (bD _) hij (by omega);rw[getElem!_pos d' i hi',getElem!_pos d' j hj']at this;simpa[DY,ltOf]using this
 ·have hw1:w'.heap[p.blk]?=some (.cells (putCells id 0 (flatK cellsOf sz d') c) t (0,0)):=by rw[hw];exact qx hbl
  obtain⟨r1,r2⟩:=sl (w':=w') (xs':=(d'.toList.map (fun i=>l[i.1]!)).map enc) hr hp hg hbl hw1 (by simp[putCells]) (by simp;omega) (fun x hx=>by
    obtain⟨z,h1,rfl⟩:=jg.1 hx;obtain⟨i,_,rfl⟩:=jg.1 h1;exact hm.elem _ (bb (helem i))) (fun i x j y q1 q2=>by
    rw[pu,pu,Array.getElem?_toList]at q1;obtain⟨z,e1,rfl⟩:=Ej.1 q1;obtain⟨k,e2,rfl⟩:=Ej.1 e1;have hi:i<d'.size:=(vn.1 e2).1;obtain⟨cs,hcs⟩:=hag l[k.1]!;obtain⟨k1,k2,k3⟩:=hrelE k cs hcs;rw[hcs]at q2;have hj:j<sz:=by rw[←k1];exact(gV.1 q2).1
    have hb1:i*sz+j<(m+1)*sz:=by have:=eb sz (Nat.succ_le_of_lt (show i<m+1 by omega));rw[pA]at this;omega
    rw[na (by rw[size_flatK,hd's];exact hb1) (by omega)];have:=hflat d' hd's i j (by omega) hj;have e3:d'[i]! =k:=by rw[getElem!_pos d' i hi];rw[Ek hi]at e2;simpa using e2
    rw[e3]at this;show VRel pl M y (flatK cellsOf sz d')[i*sz+j]!
    rw[this];exact k3 j y q2) (by rw[hw];exact ng) (by rw[hw];exact AE) (fun b hb hne=>by rw[hw];exact j8 hb hne)
  exact⟨r1,r2,ah _⟩
end
end Go.Ev
namespace Go.Ev
open Go
theorem xu(a b:Int):ap (jE a b) 0=ap a b:=by
 unfold jE;cases h:ap a b with
 |true=>rfl
 |false=>cases h2:ap b a<;>rfl
noncomputable def nl(l:List PSpan)(d:Int):Nat:=(l.takeWhile fun s=>ap s.from_ d).length
theorem DC(l:List PSpan)(d:Int):nl l d≤l.length:=by
 induction l with
 |nil=>simp[nl]
 |cons a r ih=>grind[nl,List.takeWhile_cons]
def rp(l:List PSpan):Prop:=l.Pairwise fun a b=>a.from_≤b.from_
theorem z8{d:Int}:∀{l:List PSpan},rp l→∀k,k<l.length→(ap (gD l k).from_ d=true↔k<nl l d)
 |[],_,k,h=>by simp_all
 | a::r,hs,k,h=>by
  obtain⟨h1,h2⟩:=jG.1 hs;unfold nl;rw[List.takeWhile_cons];cases q:ap a.from_ d with
  | true=>
   simp only[if_true,cF];cases k with
   |zero=>grind[gD]
   |succ k=>
    have:=z8 (d:=d) h2 k (by simp_all);rw[show gD (a::r) (k+1)=gD r k from rfl,this];grind[nl]
  |false=>
   simp only[gZ,if_false,gc,po,iff_false,Bool.not_eq_true];have hd:=aM q;grind[jZ,lr]
noncomputable def IW(l:List PSpan)(d:Int):Bool:=ap (Int.ofNat (nl l d)) (Int.ofNat l.length)&&ab (jE (gD l (nl l d)).from_ d) 0
theorem Nc{l:List PSpan}(h:l.Pairwise fun a b=>a.to<b.from_)(h2:∀s,s∈l→s.from_<s.to):rp l:=by
 induction l with
 |nil=>exact .nil
 |cons a r ih=>
  obtain⟨h3,h4⟩:=jG.1 h;refine jG.2 ⟨fun b hb=>?_,ih h4 fun s hs=>h2 s (fU _ hs)⟩;grind
structure NrmS(l:List PSpan):Prop where
 gap:l.Pairwise fun a b=>a.to<b.from_
 ok:∀s,s∈l→0≤s.from_∧s.from_<s.to∧s.to≤1048577
theorem NrmS.sort{l:List PSpan}(h:NrmS l):rp l:=Nc h.gap fun s hs=>(h.ok s hs).2.1
theorem HW:∀{l:List PSpan}{b:Int},l.Pairwise (fun a b=>a.to<b.from_)→(∀s,s∈l→b≤s.from_∧s.from_<s.to∧s.to≤1048577)→b≤1048577→Int.ofNat l.length≤1048577-b
 |[],b,_,_,hb=>by simp_all
 |a::r,b,h,h2,hb=>by
  obtain⟨h3,h4⟩:=jG.1 h;have h5:=h2 a (fY ..);have:=HW (l:=r) (b:=b+1) h4 (fun s hs=>by grind) (by omega);grind
theorem NrmS.len{l:List PSpan}(h:NrmS l):l.length≤1048577:=by
 have:=HW (b:=0) h.gap h.ok (by omega);grind
noncomputable def ic(l:List PSpan)(d:Int):Bool:=IW l d||(ap 0 (Int.ofNat (nl l d))&&ap d (gD l (nl l d-1)).to)
theorem DJ(a b:Int):BF a b=max a b:=by
 unfold BF;cases h:ap a b with
 |true=>have:=ar h;grind
 |false=>have:=aM h;grind
theorem H2(a b:Int):LL a b=min a b:=by
 unfold LL;cases h:ap b a with
 |true=>have:=ar h;grind
 |false=>have:=aM h;grind
noncomputable abbrev UA(s:PSpan):PSpan:=⟨BF s.from_ 0,LL s.to 1048577⟩
noncomputable abbrev WB(s:PSpan):Bool:=ap (BF s.from_ 0) (LL s.to 1048577)
noncomputable def jU:List PSpan→List PSpan
 |[]=>[]
 |s::r=>match WB s with|true=>UA s::jU r|false=>jU r
theorem uW{s:PSpan}{r:List PSpan}(h:WB s=true):jU (s::r)=UA s::jU r:=by grind[jU]
theorem uJ{s:PSpan}{r:List PSpan}(h:WB s=false):jU (s::r)=jU r:=by grind[jU]
theorem Ce:∀(l:List PSpan),(jU l).length≤l.length
 |[]=>by simp[jU]
 |s::r=>by
  have:=Ce r;cases h:WB s with
  |true=>grind[uW]
  |false=>grind[uJ]
theorem AQ:∀{l:List PSpan}{s:PSpan},s∈jU l→0≤s.from_∧s.from_<s.to∧s.to≤1048577
 | a::r,s,hs=>by
  cases h:WB a with
  |true=>
   rw[uW h]at hs;rcases fO.1 hs with e|e
   ·subst e;have h2:=ar h;grind[DJ,H2]
   ·exact AQ e
  |false=>rw[uJ h]at hs;exact AQ hs
def memB(l:List PSpan)(d:Int):Bool:=l.any fun s=>decide (s.from_≤d∧d<s.to)
def Ni(d:Int):Bool:=decide (0≤d∧d<1048577)
theorem ml(d:Int):memB [] d=false:=rfl
theorem eY(a:PSpan)(l:List PSpan)(d:Int):memB (a::l) d=(decide (a.from_≤d∧d<a.to)||memB l d):=rfl
theorem yR(l r:List PSpan)(d:Int):memB (l++r) d=(memB l d||memB r d):=by simp[memB]
theorem jV{l:List PSpan}{d:Int}:memB l d=true↔∃s,s∈l∧s.from_≤d∧d<s.to:=by simp[memB]
theorem LN{l r:List PSpan}(h:l.Perm r)(d:Int):memB l d=memB r d:=by
 rw[Cu,jV,jV];grind
theorem Cd:∀(l:List PSpan)(d:Int),memB (jU l) d=(Ni d&&memB l d)
 |[],d=>by simp[jU,memB]
 | a::r,d=>by
  have ih:=Cd r d;have e:∀b:Bool,(b=decide (0≤d∧d<1048577∧a.from_≤d∧d<a.to))→(b||(Ni d&&memB r d))=(Ni d&&memB (a::r) d):=fun b hb=>by grind[eY,Ni]
  cases h:WB a with
  |true=>
   rw[uW h,eY,ih];refine e _ ?_;simp only[DJ,H2];grind
  |false=>
   rw[uJ h,ih];have h2:=aM h;simp only[DJ,H2]at h2;grind
theorem NrmS.tail{a:PSpan}{r:List PSpan}(h:NrmS (a::r)):NrmS r:=⟨(jG.1 h.gap).2,fun s hs=>h.ok s (fU _ hs)⟩
theorem NrmS.low{a x:PSpan}{r:List PSpan}(h:NrmS (a::r))(hx:x∈r):a.to<x.from_:=(jG.1 h.gap).1 x hx
theorem NrmS.head{a:PSpan}{r:List PSpan}(h:NrmS (a::r)):0≤a.from_∧a.from_<a.to∧a.to≤1048577:=h.ok a (fY ..)
theorem xd:NrmS []:=⟨.nil,fun s h=>by grind⟩
theorem qF{a:PSpan}{r:List PSpan}(h:NrmS (a::r)):memB (a::r) a.from_=true:=by grind[eY,cases NrmS]
theorem Fj{a:PSpan}{r:List PSpan}(h:NrmS (a::r)){d:Int}(hd:memB (a::r) d=true):a.from_≤d:=by
 obtain⟨s,h1,h2,h3⟩:=jV.1 hd;rcases fO.1 h1 with e|e
 ·simp_all
 ·have:=h.low e;grind[cases NrmS]
theorem O3{a:PSpan}{r:List PSpan}(h:NrmS (a::r)):memB (a::r) a.to=false:=by
 cases q:memB (a::r) a.to with
 |false=>rfl
 |true=>
  obtain⟨s,h1,h2,h3⟩:=jV.1 q;rcases fO.1 h1 with e|e
  ·simp_all
  ·have:=h.low e;omega
theorem Fx{a:PSpan}{r:List PSpan}(h:NrmS (a::r))(d:Int):memB r d=(decide (a.to≤d)&&memB (a::r) d):=by
 rw[eY];by_cases h1:a.to≤d
 ·grind
 ·have:memB r d=false:=by
   cases q:memB r d with
   |false=>rfl
   |true=>
    obtain⟨s,h2,h3,h4⟩:=jV.1 q;have:=h.low h2;omega
  grind
theorem yF:∀{r s:List PSpan},NrmS r→NrmS s→(∀d,memB r d=memB s d)→r=s
 |[],[],_,_,_=>rfl
 |[],b::s,_,hs,h=>by grind[qF,ml]
 |a::r,[],hr,_,h=>by grind[qF,ml]
 | a::r,b::s,hr,hs,h=>by
  have h1:b.from_≤a.from_:=Fj hs (by grind[qF]);have h2:a.from_≤b.from_:=Fj hr (by grind[qF]);have ha:=hr.head;have hb:=hs.head;have h3:¬a.to<b.to:=fun q=>by grind[eY,O3]
  have h4:¬b.to<a.to:=fun q=>by grind[eY,O3]
  have e:a=b:=by
   obtain⟨a1,a2⟩:=a;obtain⟨b1,b2⟩:=b;grind
  subst e;rw[yF hr.tail hs.tail fun d=>by rw[Fx hr,Fx hs,h]]
def vd(f:Int→Bool)(d:Int)(l:List PSpan):List PSpan:=match f d with
 |false=>l
 |true=>match l with
  |[]=>[⟨d,d+1⟩]
  |s::r=>if s.from_=d+1 then⟨d,s.to⟩::r else⟨d,d+1⟩::s::r
def vO(f:Int→Bool):Nat→List PSpan
 |0=>[]
 |k+1=>vd f (1048577-Int.ofNat (k+1)) (vO f k)
theorem Nk{f:Int→Bool}{d:Int}{l:List PSpan}(h0:0≤d)(h1:d+1≤1048577)(hl:NrmS l)(hf:∀s,s∈l→d+1≤s.from_):
  NrmS (vd f d l)∧(∀s,s∈vd f d l→d≤s.from_)∧∀e,memB (vd f d l) e=((decide (e=d)&&f e)||memB l e):=by
 unfold vd;cases hfd:f d with
 |false=>grind
 | true=>
  match l,hl,hf with
  |[],_,_=>
   refine⟨⟨by simp,fun s hs=>by grind⟩,fun s hs=>by simp_all,fun e=>?_⟩;simp only[eY,ml,Bool.or_false];grind
  | s::r,hl,hf=>
   have hs:=hl.head;have hs2:=hf s (fY ..);simp only[];by_cases q:s.from_=d+1
   ·rw[if_pos q];refine⟨⟨jG.2 ⟨fun x hx=>hl.low hx,hl.tail.gap⟩,fun x hx=>?_⟩,fun x hx=>?_,fun e=>?_⟩
    ·grind[cases NrmS]
    ·grind
    ·simp only[eY];grind
   ·rw[if_neg q];refine⟨⟨jG.2 ⟨fun x hx=>?_,hl.gap⟩,fun x hx=>?_⟩,fun x hx=>?_,fun e=>?_⟩
    ·have:=hf x hx;rcases fO.1 hx with e|e
     ·grind
     ·have:=hl.low e;grind
    ·rcases fO.1 hx with e|e
     ·grind
     ·exact hl.ok x e
    ·grind
    ·rw[eY];grind
theorem E2(f:Int→Bool):∀k,k≤1048577→NrmS (vO f k)∧(∀s,s∈vO f k→1048577-Int.ofNat k≤s.from_)∧∀e,memB (vO f k) e=(decide (1048577-Int.ofNat k≤e∧e<1048577)&&f e)
 |0,_=>by
  refine⟨xd,fun s h=>(by cases h),fun e=>?_⟩;have:decide (1048577-Int.ofNat 0≤e∧e<1048577)=false:=by simp_all
  rw[this];rfl
 |k+1,hk=>by
  obtain⟨h1,h2,h3⟩:=E2 f k (by omega);simp only[aH]at *;have:=Nk (f:=f) (d:=1048577-((k+1:Nat):Int)) (l:=vO f k) (by omega) (by omega) h1 (fun s hs=>by grind);have h5:vO f (k+1)=vd f (1048577-((k+1:Nat):Int)) (vO f k):=by grind[vO]
  grind
theorem O6(f:Int→Bool):∃l:List PSpan,NrmS l∧∀d,memB l d=(Ni d&&f d):=by
 obtain⟨h1,_,h3⟩:=E2 f 1048577 (ah _);exact⟨_,h1,fun d=>by simp_all[Ni]⟩
noncomputable def nf(f:Int→Bool):List PSpan:=Classical.choose (O6 f)
theorem yH(f:Int→Bool):NrmS (nf f):=(Classical.choose_spec (O6 f)).1
theorem HS(f:Int→Bool)(d:Int):memB (nf f) d=(Ni d&&f d):=(Classical.choose_spec (O6 f)).2 d
theorem O7{f:Int→Bool}{r:List PSpan}(h:NrmS r)(hm:∀d,memB r d=(Ni d&&f d)):r=nf f:=yF h (yH f) fun d=>by grind[HS]
theorem O8{f g:Int→Bool}(h:∀d,Ni d=true→f d=g d):nf f=nf g:=O7 (yH f) fun d=>by
 rw[HS];grind
theorem Sd{l:List PSpan}(h:NrmS l):l=nf (memB l):=O7 h fun d=>by
 cases q:memB l d with
 |false=>simp_all
 |true=>
  obtain⟨s,h1,h2,h3⟩:=jV.1 q;have:=h.ok s h1;have:Ni d=true:=by unfold Ni;grind
  simp_all
theorem CD{α:Type}[Inhabited α]{l:List α}{n:Nat}(h:n<l.length):l.take (n+1)=l.take n++[gD l n]:=by grind[List.take_add_one,gD]
theorem Dn{α:Type}[Inhabited α]{l:List α}{n:Nat}(h:n<l.length):l.drop n=gD l n::l.drop (n+1):=by grind[List.drop_eq_getElem_cons,gD]
theorem sP{α:Type}{l:List α}{n m:Nat}{x:α}(h:n≤m):(l.set m x).take n=l.take n:=by
 apply List.ext_getElem?;grind
theorem P0{α:Type}[Inhabited α]{l:List α}{i k:Nat}{x:α}(h:i<l.length):gD (l.set i x) k=if k=i then x else gD l k:=by
 unfold gD List.getD;grind
theorem rp.at{l:List PSpan}(h:rp l){i k:Nat}(hik:i≤k)(hk:k<l.length):(gD l i).from_≤(gD l k).from_:=by
 rcases eH i k with q|q
 ·have:=I0.1 h i k (by omega) hk q;grind[gD]
 grind
structure MergeI(l cur:List PSpan)(n i:Nat):Prop where
 len:cur.length=l.length
 le:n≤i
 il:i≤l.length
 pos:0<i→0<n
 rest:∀k,i≤k→k<l.length→gD cur k=gD l k
 gap:∀j k,j<k→k<n→(gD cur j).to<(gD cur k).from_
 ok:∀k,k<n→0≤(gD cur k).from_∧(gD cur k).from_<(gD cur k).to∧(gD cur k).to≤1048577
 last:0<n→∀k,i≤k→k<l.length→(gD cur (n-1)).from_≤(gD l k).from_
 mem:∀d,(memB (cur.take n) d||memB (l.drop i) d)=memB l d
theorem MergeI.start(l:List PSpan):MergeI l l 0 0:=⟨rfl,ah _,bD _,fun h=>absurd h (vo _),fun _ _ _=>rfl,fun _ _ _ h=>absurd h (po _),fun _ h=>absurd h (po _),fun h=>absurd h (vo _),fun d=>by simp[memB]⟩
theorem MergeI.copy{l cur:List PSpan}{n i:Nat}(h:MergeI l cur n i)(hi:i<l.length)(hs:rp l)(hok:∀k,k<l.length→0≤(gD l k).from_∧(gD l k).from_<(gD l k).to∧(gD l k).to≤1048577)
  (hn:n=0∨(gD cur (n-1)).to<(gD cur i).from_):MergeI l (cur.set n (gD cur i)) (n+1) (i+1):=by
 rw[h.rest i (ah _) hi]at hn ⊢;have hl:=h.le;have hcl:=h.len;have hg:∀k,gD (cur.set n (gD l i)) k=if k=n then gD l i else gD cur k:=fun k=>P0 (by omega)
 refine⟨by simp_all,by omega,by omega,fun _=>by omega,fun k h1 h2=>?_,fun j k h1 h2=>?_,fun k h1=>?_,fun _ k h1 h2=>?_,fun d=>?_⟩
 ·grind[cases MergeI]
 ·rw[hg,hg,if_neg (by omega)];by_cases e:k=n
  ·rw[if_pos e];rcases hn with hn|hn
   ·omega
   ·by_cases e2:j=n-1
    ·simp_all
    ·have h3:=h.gap j (n-1) (by omega) (by omega);grind[cases MergeI]
  ·grind[cases MergeI]
 ·rw[hg];by_cases e:k=n
  ·simp_all
  ·grind[cases MergeI]
 ·rw[hg,if_pos (by omega)];exact hs.at (by omega) h2
 ·rw[CD (by grind),hg,if_pos rfl,sP (ah _),yR,←h.mem d,Dn hi,eY,eY,ml];grind
theorem MergeI.join{l cur:List PSpan}{n i:Nat}(h:MergeI l cur n i)(hi:i<l.length)(hs:rp l)(hok:∀k,k<l.length→0≤(gD l k).from_∧(gD l k).from_<(gD l k).to∧(gD l k).to≤1048577)
  (hn:0<n)(hle:(gD cur i).from_≤(gD cur (n-1)).to)(x:Int)(hx:x=BF (gD cur (n-1)).to (gD cur i).to):MergeI l (cur.set (n-1) ⟨(gD cur (n-1)).from_,x⟩) n (i+1):=by
 rw[h.rest i (ah _) hi]at hle;rw[h.rest i (ah _) hi,DJ]at hx;have hl:=h.le;have hcl:=h.len;have hg:∀k,gD (cur.set (n-1) ⟨(gD cur (n-1)).from_,x⟩) k=if k=n-1 then⟨(gD cur (n-1)).from_,x⟩else gD cur k:=fun k=>P0 (by omega)
 have h4:=h.ok (n-1) (by omega);have h5:=hok i hi;have h6:=h.last hn i (ah _) hi;refine⟨by simp_all,by omega,by omega,fun _=>hn,fun k h1 h2=>?_,fun j k h1 h2=>?_,fun k h1=>?_,fun _ k h1 h2=>?_,fun d=>?_⟩
 ·grind[cases MergeI]
 ·rw[hg,hg,if_neg (by omega)];by_cases e:k=n-1
  ·grind[cases MergeI]
  ·grind[cases MergeI]
 ·rw[hg];by_cases e:k=n-1
  ·grind
  ·grind[cases MergeI]
 ·grind[cases MergeI]
 ·obtain⟨m,rfl⟩:∃m,n=m+1:=⟨n-1,by omega⟩
  simp only[Nat.add_sub_cancel]at *;rw[CD (by grind),hg,if_pos rfl,sP (ah _),yR,←h.mem d,Dn hi,eY (gD l i),CD (by omega),yR,eY,eY,ml,Bool.or_false,Bool.or_false];grind
theorem MergeI.nrm{l cur:List PSpan}{n i:Nat}(h:MergeI l cur n i):NrmS (cur.take n):=by
 have hl:=h.le;have hcl:=h.len;have hil:=h.il;have hlen:(cur.take n).length=n:=by grind
 have hg:∀k (hk:k<(cur.take n).length),(cur.take n)[k]=gD cur k:=fun k hk=>by rw[List.getElem_take];unfold gD List.getD;grind
 refine⟨?_,fun s hs=>?_⟩;all_goals grind[List.pairwise_iff_getElem,List.getElem_of_mem,cases MergeI]
theorem MergeI.done{l cur:List PSpan}{n i:Nat}(h:MergeI l cur n i)(hi:l.length≤i)(d:Int):memB (cur.take n) d=memB l d:=by rw[←h.mem d,xH hi,ml,Bool.or_false]
theorem QR{l l':List PSpan}(hp:l'.Perm (jU l)):∀k,k<l'.length→0≤(gD l' k).from_∧(gD l' k).from_<(gD l' k).to∧(gD l' k).to≤1048577:=fun k hk=>AQ (hp.mem_iff.1 (jZ hk))
noncomputable def iP(l:List PSpan):List PSpan:=nf (memB l)
theorem Fw{l r:List PSpan}(h:NrmS r)(hm:∀d,memB r d=memB (jU l) d):r=iP l:=O7 h fun d=>by grind[Cd]
theorem LG{l:List PSpan}(h:jU l=[]):[]=iP l:=Fw xd fun d=>by grind
end Go.Ev
namespace Go.Ev
open Go
theorem It{zs:List Int}(hs:zs.Pairwise fun a b=>a≤b):(bx zs).Pairwise (fun a b=>a<b)∧∀z,z∈bx zs↔z∈zs:=by
 generalize hd:zs.toArray=d;have hsz:d.size=zs.length:=by grind
 have hx:∀j (hj:j<zs.length),d[j]! =zs[j]:=fun j hj=>by grind
 have mono:∀i j,i≤j→j<zs.length→d[i]!≤d[j]!:=fun i j hij hj=>by
  rcases eH i j with q|q
  ·rw[hx i (by omega),hx j hj];exact I0.1 hs i j (by omega) hj q
  grind
 have key:∀m,m≤zs.length→(Lib.compactUpTo d m).Pairwise (fun a b=>a<b)∧(∀z,z∈Lib.compactUpTo d m→∃j,j<m∧z=d[j]!)∧∀j,j<m→d[j]!∈Lib.compactUpTo d m:=by
  intro m;induction m with
  |zero=>simp_all[Lib.compactUpTo]
  | succ m ih=>
   intro hm;obtain⟨h1,h2,h3⟩:=ih (by omega);rw[Lib.compactUpTo_succ];cases hk:Lib.keeps d m with
   | true=>
    simp only[if_true];have hk':m=0∨d[m]!≠d[m-1]!:=by grind[Lib.keeps]
    refine⟨List.pairwise_append.2 ⟨h1,by simp,fun a ha b hb=>?_⟩,fun z hz=>?_,fun j hj=>?_⟩
    ·obtain⟨j,hj,rfl⟩:=h2 a ha;have hb:b=d[m]!:=by simp_all
     subst hb;have e1:=mono j (m-1) (by omega) (by omega);have e2:=mono (m-1) m (by omega) (by omega);omega
    all_goals grind
   |false=>
    simp only[gZ,if_false,dr];have hk':¬(m=0∨d[m]!≠d[m-1]!):=by grind[Lib.keeps]
    grind
 obtain⟨h1,h2,h3⟩:=key zs.length (ah _);have e:bx zs=Lib.compactUpTo d zs.length:=by grind[bx,Lib.compact]
 rw[e];refine⟨h1,fun z=>⟨fun hz=>?_,fun hz=>?_⟩⟩
 ·grind
 ·obtain⟨j,hj,rfl⟩:=Ex hz;simp_all
theorem NrmS.at{l:List PSpan}(h:NrmS l){j k:Nat}(hjk:j<k)(hk:k<l.length):(gD l j).to<(gD l k).from_:=by
 have:=I0.1 h.gap j k (by omega) hk hjk;grind[gD]
theorem NrmS.okAt{l:List PSpan}(h:NrmS l){k:Nat}(hk:k<l.length):0≤(gD l k).from_∧(gD l k).from_<(gD l k).to∧(gD l k).to≤1048577:=h.ok _ (jZ hk)
theorem Sr{l:List PSpan}{d:Int}:memB l d=true↔∃k,k<l.length∧(gD l k).from_≤d∧d<(gD l k).to:=by
 rw[jV];constructor
 ·rintro⟨s,h1,h2⟩
  obtain⟨k,hk,e⟩:=Ex h1;have:gD l k=s:=by grind[gD]
  grind
 grind[jZ]
theorem Cb {a b:Int}:ab (jE a b) 0=true↔a=b:=by
 unfold jE;cases h:ap a b with
 | true => have:=ar h;constructor
           ·intro h;cases h
           omega
 |false=>
  have:=aM h;cases h2:ap b a with
  | true => have:=ar h2;constructor
            ·intro h;cases h
            omega
  |false=>have:=aM h2;exact⟨fun _=>by omega,fun _=>rfl⟩
theorem Sp{l:List PSpan}(h:NrmS l)(d:Int):ic l d=memB l d:=by
 have hi:=z8 (d:=d) h.sort;have hc:=DC l d;rw[Cu,Sr];unfold ic IW;simp only[so,bU];constructor
 ·rintro(⟨h1,h2⟩|⟨h1,h2⟩)
  ·have h1:=ar h1;simp only[aH]at h1;have h2:=Cb.1 h2;have:=h.okAt (k:=nl l d) (by omega);grind
  ·have h1:=ar h1;have h2:=ar h2;simp only[aH]at h1;have h3:=ar ((hi (nl l d-1) (by omega)).2 (by omega));grind
 ·rintro⟨k,hk,h1,h2⟩
  by_cases e:(gD l k).from_=d
  ·left;have e1:¬k<nl l d:=fun q=>by have:=ar ((hi k hk).2 q);omega
   have e2:¬nl l d<k:=fun q=>by
    have h3:=h.at q hk;have h4:=h.okAt (k:=nl l d) (by omega);grind[nQ]
   have e3:nl l d=k:=by omega
   rw[e3];exact⟨nQ (by simp_all),Cb.2 e⟩
  ·right;have e1:k<nl l d:=(hi k hk).1 (nQ (by omega));have e2:¬k+1<nl l d:=fun q=>by
    have h3:=h.at (j:=k) (k:=k+1) (by omega) (by omega);have:=ar ((hi (k+1) (by omega)).2 q);omega
   grind[nQ]
def o7(l:List PSpan):List Int:=l.flatMap fun s=>[s.from_,s.to]
theorem Ck(s:PSpan)(r:List PSpan):o7 (s::r)=[s.from_,s.to]++o7 r:=by simp[o7]
theorem kZ:∀(l:List PSpan),(o7 l).length=2*l.length
 |[]=>rfl
 |s::r=>by rw[Ck];simp[kZ r];omega
theorem Gc{l:List PSpan}{s:PSpan}(h:s∈l):s.from_∈o7 l∧s.to∈o7 l:=by
 unfold o7;grind
def jO(g:Int→Bool):List Int→List PSpan
 |[]=>[]
 | a::r=>match r with
  |[]=>[]
  |b::_=>match g a with
   |true=>⟨a,b⟩::jO g r
   |false=>jO g r
theorem ES(g:Int→Bool)(a b:Int)(r:List Int):jO g (a::b::r)=match g a with|true=>⟨a,b⟩::jO g (b::r)|false=>jO g (b::r):=by rw[jO]
def rg:Int→List Int→Int
 |a,[]=>a
 |_,b::r=>rg b r
theorem zK:∀{r:List Int}{a:Int},(a::r).Pairwise (fun a b=>a<b)→a≤rg a r∧∀z,z∈r→z≤rg a r
 |[],a,_=>⟨Int.le_refl _,fun z h=>by grind⟩
 |b::r,a,h=>by
  obtain⟨h1,h2⟩:=jG.1 h;have h3:=h1 b (fY ..);obtain⟨k1,k2⟩:=zK h2;grind[rg]
theorem ET{g:Int→Bool}{C:List Int}(hg:∀x y,(∀z,z∈C→z≤x∨y≤z)→∀d,x≤d→d<y→g d=g x):
  ∀(r:List Int)(a:Int),(a::r).Pairwise (fun a b=>a<b)→(∀z,z∈C→z≤a∨z∈r)→∀d,memB (jO g (a::r)) d=(decide (a≤d∧d<rg a r)&&g d)
 |[],a,_,_,d=>by
  have:decide (a≤d∧d<rg a [])=false:=by grind[rg]
  rw[this];rfl
 | b::r,a,hp,hC,d=>by
  obtain⟨h1,h2⟩:=jG.1 hp;have hab:=h1 b (fY ..);obtain⟨hb2,h3⟩:=jG.1 h2;have hl:=(zK h2).1;have ih:=ET hg r b h2 (fun z hz=>by grind) d;have hc:∀d,a≤d→d<b→g d=g a:=hg a b fun z hz=>by grind
  have e0:memB (jO g (a::b::r)) d=((g a&&decide (a≤d∧d<b))||memB (jO g (b::r)) d):=by
   rw[ES];cases g a with
   |true=>rw[eY,Bool.true_and]
   |false=>simp_all
  rw[e0,ih,show rg a (b::r)=rg b r from rfl];grind
def iZ(A:List PSpan):List Int:=bx (du (o7 A))
theorem KB(A:List PSpan):(iZ A).Pairwise (fun a b=>a<b)∧∀z,z∈iZ A↔z∈o7 A:=by
 obtain⟨h1,h2⟩:=It (CI (o7 A));exact⟨h1,fun z=>(h2 z).trans (kg (o7 A)).mem_iff⟩
theorem yP{A l:List PSpan}(hl:∀s,s∈l→s∈A){x y:Int}(hz:∀z,z∈iZ A→z≤x∨y≤z){d:Int}(h1:x≤d)(h2:d<y):memB l d=memB l x:=by
 have key:∀s,s∈l→((s.from_≤d∧d<s.to)↔(s.from_≤x∧x<s.to)):=fun s hs=>by
  obtain⟨k1,k2⟩:=Gc (hl s hs);grind[KB]
 rw[Cu,jV,jV];grind
theorem Lj{op:Bool→Bool→Bool}(h0:op false false=false)(A B:List PSpan)(d:Int):memB (jO (fun d=>op (memB A d) (memB B d)) (iZ (A++B))) d=op (memB A d) (memB B d):=by
 obtain⟨h1,h2⟩:=KB (A++B);have out:∀(z1 z2:Int),(∀z,z∈iZ (A++B)→z1≤z∧z≤z2)→¬(z1≤d∧d<z2)→op (memB A d) (memB B d)=false:=fun z1 z2 hz hd=>by
  have no:∀l:List PSpan,(∀s,s∈l→s∈A++B)→memB l d=false:=fun l hl=>by
   cases q:memB l d with
   |false=>rfl
   |true=>
    obtain⟨s,k1,k2,k3⟩:=jV.1 q;obtain⟨k4,k5⟩:=Gc (hl s k1);grind
  simp_all
 cases hC:iZ (A++B)with
 |nil=>
  rw[jO,ml];exact(out (d+1) d (fun z hz=>by grind) (by omega)).symm
 | cons a r=>
  rw[hC]at h1;have hl:=zK h1;have hp:=(jG.1 h1).1;rw[ET (C:=iZ (A++B)) (fun x y hz d h3 h4=>by
   show op (memB A d) (memB B d)=op (memB A x) (memB B x)
   rw[yP (A:=A++B) (fun s hs=>xG _ hs) hz h3 h4,yP (A:=A++B) (fun s hs=>AP _ hs) hz h3 h4]) r a h1 (fun z hz=>by
   grind) d]
  by_cases q:a≤d∧d<rg a r;all_goals grind
theorem zN(A:List PSpan):(iZ A).length≤2*A.length:=by
 have:=wm (du (o7 A));have h2:=(kg (o7 A)).length_eq;grind[kZ,iZ]
theorem Be{g:Int→Bool}{C:List Int}{x:Nat}(h1:1≤x)(h2:x<C.length):jO g (C.drop (x-1))=match g (gD C (x-1))with|true=>⟨gD C (x-1),gD C x⟩::jO g (C.drop (x+1-1))|false=>jO g (C.drop (x+1-1)):=by grind[Dn,ES]
theorem kF{g:Int→Bool}{C:List Int}{x:Nat}(h1:1≤x)(h2:C.length≤x):jO g (C.drop (x-1))=[]:=by
 have:(C.drop (x-1)).length≤1:=by simp_all
 match C.drop (x-1),this with
 |[],_=>rfl
 |[_],_=>rfl
 |_::_::_,h=>simp_all
noncomputable def rn(op:Bool→Bool→Bool)(a b:List PSpan):List PSpan:=nf fun d=>op (memB a d) (memB b d)
theorem mZ(l:List PSpan):NrmS (iP l):=yH _
theorem BC(l:List PSpan)(d:Int):memB (iP l) d=(Ni d&&memB l d):=HS _ d
theorem NX{op:Bool→Bool→Bool}(h0:op false false=false){a b A B:List PSpan}(hA:iP a=A)(hB:iP b=B):iP (jO (fun d=>op (ic A d) (ic B d)) (iZ (A++B)))=rn op a b:=by
 have nA:NrmS A:=hA▸mZ a;have nB:NrmS B:=hB▸mZ b;have e:(fun d=>op (ic A d) (ic B d))=fun d=>op (memB A d) (memB B d):=funext fun d=>by grind[Sp]
 rw[e];unfold iP rn;refine O8 fun d hd=>?_
 rw[Lj h0,←hA,←hB,BC,BC,hd,Bool.true_and,Bool.true_and]
end Go.Ev
namespace Go.Ev
open Go
section
variable{H:Type}{enc:TypeId×Value→H}{P:Program}{w:World}{base:Nat}{spare:Nat→Bool}{held:Bool}
inductive VL(M:da):List AV→List Value→Prop
 |nil:VL M [] []
 |cons {x:AV} {v:Value} {xs:List AV} {vs:List Value} (h:VRel (fun _=>none) M x v) (t:VL M xs vs):VL M (x::xs) (v::vs)
theorem VL.append{M:da}{xs ys:List AV}{a b:List Value}(h:VL M xs a)(k:VL M ys b):VL M (xs++ys) (a++b):=by
 induction h with
 |nil=>grind
 |cons h _ ih=>exact .cons h ih
theorem VL.at_{M:da}{xs:List AV}{a:List Value}(h:VL M xs a):∀(j:Nat)(y:AV),xs[j]?=some y→∃v,a[j]?=some v∧VRel (fun _=>none) M y v:=by
 induction h with
 |nil=>simp_all
 |cons h _ ih=>grind
theorem VL.one{M:da}{x:AV}{cs:List Value}(h:VL M [x] cs):∃v,cs=[v]∧VRel (fun _=>none) M x v:=by
 cases h with
 |cons h t=>cases t;simp_all
def Wt(P:Program)(t:TypeId)(d:DataW H):Prop:=∀m,m∈d.weights P t→m≤reachBytes
theorem pC{e:TypeId}{d:DataW H}{m:Nat}(hm:m∈d.weights P e):∀{l:List (DataW H)},d∈l→m∈DataW.weightsAll P e l
 |[],h=>by grind
 |a::r,h=>by
  unfold DataW.weightsAll;rcases fO.1 h with rfl|h
  ·simp_all
  ·exact AP _ (pC hm h)
theorem lw{t:TypeId}{d:DataW H}{m:Nat}(hm:m∈d.weights P t):∀{ts:List TypeId}{l:List (DataW H)}(i:Nat),ts[i]?=some t→l[i]?=some d→m∈DataW.weightsEach P ts l
 |[],_,i,h,_=>by simp_all
 |_::_,[],i,_,h=>by simp_all
 |u::ts,a::r,i,h1,h2=>by
  unfold DataW.weightsEach;cases i with
  |zero=>simp_all
  |succ i=>exact AP _ (lw hm i (by simp_all) (by simp_all))
def DB(P:Program):List Field→Nat→Nat→Bool
 |[],off,n=>Nat.beq off n
 |f::r,off,n=>Nat.beq f.offset off&&DB P r (off+P.cellsOf f.type) n
def VF(M:da)(P:Program)(cs:List Value):List Field→List (List AV)→Prop
 |[],[]=>True
 |f::fs,xs::xss=>VL M xs ((cs.drop f.offset).take (P.cellsOf f.type))∧VF M P cs fs xss
 |_,_=>False
theorem VF.vl{M:da}{cs:List Value}:∀{fs:List Field}{xss:List (List AV)}{off:Nat},DB P fs off cs.length=true→VF M P cs fs xss→VL M xss.flatten (cs.drop off)
 |[],[],off,h,_=>by
  have:=pU h;rw[this,List.drop_length];exact .nil
 |[],_::_,_,_,h=>h.elim
 |_::_,[],_,_,h=>h.elim
 |f::fs,xs::xss,off,h,k=>by
  unfold DB at h;rw[bU]at h;have ho:=pU h.1;have h1:=k.1;rw[ho]at h1;have h2:=VF.vl h.2 k.2;have e:cs.drop off=(cs.drop off).take (P.cellsOf f.type)++cs.drop (off+P.cellsOf f.type):=by grind[List.drop_drop,List.take_append_drop]
  rw[List.flatten_cons,e];exact h1.append h2
def TF(enc:TypeId×Value→H)(P:Program)(w:World)(base:Nat)(spare:Nat→Bool)(held:Bool)(n:Nat)(cs:List Value):List Field→Prop
 |[]=>True
 |f::fs=>(∃d p,DataW.trod enc P w base spare held n f.type ((cs.drop f.offset).take (P.cellsOf f.type))=some (d,p)∧Wt P f.type d)∧TF enc P w base spare held n cs fs
theorem UD{n:Nat}{cs:List Value}:∀(fs:List Field),(∀(i:Nat)(f:Field),fs[i]?=some f→∃d p,DataW.trod enc P w base spare held n f.type ((cs.drop f.offset).take (P.cellsOf f.type))=some (d,p)∧Wt P f.type d)→TF enc P w base spare held n cs fs
 |[],_=>trivial
 |f::fs,h=>⟨h 0 f rfl,UD fs fun i g hg=>h (i+1) g (by simp_all)⟩
theorem iF{t:TypeId}{fs:Array Field}{fuel:Nat}{cs:List Value}{d:DataW H}{p:List MemPlace}(hu:P.underlying t=some (.struct fs))(hc:DB P fs.toList 0 (P.cellsOf t)=true)
  (h:DataW.trod enc P w base spare held fuel t cs=some (d,p))(hw:Wt P t d):
  ∃n,fuel=n+1∧TF enc P w base spare held n cs fs.toList∧∀xss,VF (cK w) P cs fs.toList xss→VL (cK w) xss.flatten cs:=by
 obtain⟨xs,n,rfl,h1,h2,h3,h4⟩:=DataW.trod_struct hu h;simp only[rz]at h1;obtain⟨rfl,_⟩:=h1;refine⟨n,rfl,UD _ fun i f hf=>?_,fun xss hx=>?_⟩
 ·have hf':fs[i]?=some f:=by simp_all
  have hi:i<xs.length:=by grind
  have e:=h4 i f hf';rw[kM hi]at e;refine⟨xs[i].1,xs[i].2,e,fun m hm=>hw m ?_⟩;unfold DataW.weights;rw[hu];exact lw hm i (by simp_all) (by grind)
 ·have:=VF.vl (off:=0) (by simp_all) hx;simp_all
theorem gz{t:TypeId}{fuel:Nat}{cs:List Value}{d:DataW H}{p:List MemPlace}(hu:P.underlying t=some (.int .i64))(h:DataW.trod enc P w base spare held fuel t cs=some (d,p)):∃x,VL (cK w) [.int .i64 x] cs:=by
 obtain⟨x,rfl,_⟩:=DataW.trod_int hu h;exact⟨x,.cons (.int _ _) .nil⟩
theorem nq{t:TypeId}{fuel:Nat}{cs:List Value}{d:DataW H}{p:List MemPlace}(hu:P.underlying t=some .string)(h:DataW.trod enc P w base spare held fuel t cs=some (d,p)):∃s,VL (cK w) [.str s] cs:=by
 obtain⟨⟨⟨s⟩⟩,rfl,_⟩:=DataW.trod_string hu h;exact⟨s,.cons (.str _) .nil⟩
theorem JN{α:Type}{Q:Nat→α→Prop}:∀(n:Nat),(∀i,i<n→∃x,Q i x)→∃l:List α,l.length=n∧∀i x,l[i]?=some x→Q i x
 |0,_=>⟨[],rfl,fun i x h=>by simp_all⟩
 |n+1,h=>by
  obtain⟨l,h1,h2⟩:=JN n fun i hi=>h i (by omega)
  obtain⟨y,hy⟩:=h n (by omega);refine⟨l++[y],by simp_all,fun i x hx=>?_⟩;grind
theorem Yz{x:AV}(h:x.cells.all cA=true):Sc x:=fun y hy=>lp.1 h y hy
theorem yw{α:Type}(el:α→AV)(fit:α→Prop){t e:TypeId}{fuel:Nat}{cs:List Value}{d:DataW H}{p:List MemPlace}(hu:P.underlying t=some (.slice e))(hsz:Nat.blt 0 (P.cellsOf e)=true)(hby:Nat.blt 0 (P.bytesOf e)=true)
  (hel:∀x,(el x).cells.length=P.cellsOf e)(hsc:∀x,(el x).cells.all cA=true)(htop:∀x,(el x).top=0)
  (hrec:∀m,m<fuel→∀cs d p,DataW.trod enc P w base spare held m e cs=some (d,p)→Wt P e d→∃x,fit x∧VL (cK w) (el x).cells cs)
  (h:DataW.trod enc P w base spare held fuel t cs=some (d,p))(hw:Wt P t d):
  ∃l:List α,l.length<2^47∧(∀x,x∈l→fit x)∧VL (cK w) [.ls (l.map el)] cs:=by
 rw[dx]at hsz hby;simp only[decide_eq_true_eq]at hsz hby;rcases DataW.trod_slice hu h with⟨rfl,_⟩|⟨a,len,cap,elems,rest,n,rfl,rfl,h1,h2,h3,h4,h5,h6,_,_⟩
 ·exact⟨[],Nat.two_pow_pos 47,fun x h=>absurd h (List.not_mem_nil),.cons .lsn .nil⟩
 ·simp only[rz]at h1;obtain⟨rfl,_⟩:=h1;have hwl:len<2^47:=by
   have:=hw ((elems.length+rest.length)*P.bytesOf e) (by grind[DataW.weights]);have h7:elems.length≤(elems.length+rest.length)*P.bytesOf e:=bN (Nat.le_add_right _ _) (Nat.le_mul_of_pos_right _ hby);have:elems.length≤reachBytes:=bN h7 this;rw[h5]at this;exact pY this (by decide)
  have el0:∀i,i<len→∃x,fit x∧∃cs:List Value,cs.length=P.cellsOf e∧(∀j,j<P.cellsOf e→w.cell? ((a.add (i*P.cellsOf e)).add j)=cs[j]?)∧VL (cK w) (el x).cells cs:=by
   intro i hi;have k5:=h6 i hi;have hi':i<elems.length:=by omega
   rw[kM hi']at k5;simp only[Option.bind_eq_some_iff]at k5;obtain⟨cs,c1,c2⟩:=k5;obtain⟨z1,z2⟩:=Cf c1;obtain⟨x,f1,f2⟩:=hrec n (by omega) cs elems[i].1 elems[i].2 c2 (fun m hm=>hw m (by
    unfold DataW.weights;rw[hu];exact fU _ (xG _ (pC hm (jg.2 ⟨elems[i],Ct hi',rfl⟩)))))
   grind
  obtain⟨l,q1,q2⟩:=JN len el0;refine⟨l,by omega,fun x hx=>?_,.cons ?_ .nil⟩
  ·obtain⟨i,hi⟩:=Eb.1 hx;grind
  ·have q1':(l.map el).length=len:=by simp_all
   generalize hys:l.map el=ys at *;have q3:∀i y,ys[i]?=some y→∃cs:List Value,cs.length=P.cellsOf e∧(∀j,j<P.cellsOf e→w.cell? ((a.add (i*P.cellsOf e)).add j)=cs[j]?)∧VL (cK w) y.cells cs:=by grind
   have q4:∀y,y∈ys→y.cells.length=P.cellsOf e∧Sc y:=by grind[Yz]
   have q5:aq ys=0:=by grind[aX]
   have addadd:∀i j:Nat,a.spot=none→(a.add i).add j=⟨a.block,a.off+i+j,none⟩:=by
    intro i j hs;obtain⟨blk,off,spot⟩:=a;grind[Addr.add]
   have spot:ys≠[]→a.spot=none:=by
    intro hne;obtain⟨x,hx⟩:∃x,ys[0]?=some x:=by
     cases ys with
     |nil=>simp_all
     |cons x r=>exact⟨x,rfl⟩
    grind[rZ,Addr.add]
   have cell:∀(i j:Nat)(x:AV),ys[i]?=some x→j<P.cellsOf e→∃c v,cK w a.block=some c∧c[a.off+i*P.cellsOf e+j]?=some v∧∀y,x.cells[j]?=some y→VRel (fun _=>none) (cK w) y v:=by
    intro i j x hx hj;obtain⟨cs,c1,c2,c3⟩:=q3 i x hx;have:=c2 j hj;rw[kM (by omega),addadd _ _ (spot (by grind))]at this;obtain⟨_,c,m1,m2⟩:=rZ this;refine⟨c,_,m1,m2,fun y hy=>?_⟩;obtain⟨v,g1,g2⟩:=c3.at_ j y hy;simp_all
   refine .lsp ?_ q5;by_cases hne:ys=[]
   ·subst hne;simp at q1';subst q1';exact .ps (sz:=P.cellsOf e) (c:=#[]) (by simp) (fun h=>by grind) (fun h=>absurd rfl h) (fun x h=>by simp_all) (fun i x j y h=>by simp_all)
   ·have hlen:0<ys.length:=pt.2 hne;obtain⟨x0,hx0⟩:∃x,ys[ys.length-1]?=some x:=⟨ys[ys.length-1],by simp⟩
    obtain⟨c,v0,m1,m2,_⟩:=cell (ys.length-1) (P.cellsOf e-1) x0 hx0 (by omega);have hc:=(vn.1 m2).1;have hfit:a.off+ys.length*P.cellsOf e≤c.size:=by
     have h1:(ys.length-1)*P.cellsOf e+P.cellsOf e=ys.length*P.cellsOf e:=by rw[←pA];grind
     omega
    have:=VRel.ps (pl:=fun _=>none) (M:=cK w) (xs:=ys) (tight:=false) (a:=a) (cap:=cap) (sz:=P.cellsOf e) (c:=c) (by omega) (fun h=>by grind) (fun _=>⟨spot hne,m1,hfit,hsz⟩) q4
     (fun i x j y hx hy=>by
      obtain⟨r1,_⟩:=q4 x (bb hx);have hj:j<P.cellsOf e:=by grind
      obtain⟨c',v,n1,n2,n3⟩:=cell i j x hx hj;simp_all)
    simp_all
theorem mq{α:Type}(el:α→AV)(fit:α→Prop){t e:TypeId}{fuel:Nat}{cs:List Value}{d:DataW H}{p:List MemPlace}(hu:P.underlying t=some (.slice e))(hsz:Nat.blt 0 (P.cellsOf e)=true)(hby:Nat.blt 0 (P.bytesOf e)=true)
  (hel:∀x,(el x).cells.length=P.cellsOf e)(hsc:∀x,(el x).cells.all cA=true)(htop:∀x,(el x).top=0)
  (hrec:∀m,m<fuel→∀cs d p,DataW.trod enc P w base spare held m e cs=some (d,p)→Wt P e d→∃x,fit x∧VL (cK w) (el x).cells cs)
  (h:DataW.trod enc P w base spare held fuel t cs=some (d,p))(hw:Wt P t d):
  ∃l:List α,l.length<2^60∧(∀x,x∈l→fit x)∧VL (cK w) [.ls (l.map el)] cs:=by
 have⟨l,h1,h2⟩:=yw el fit hu hsz hby hel hsc htop hrec h hw;grind
end
end Go.Ev
namespace Go.Ev
open Go
structure PPair where
 a:Int
 b:Int
deriving Inhabited,DecidableEq
structure PRef where
 act:Int
 item:Int
deriving Inhabited,DecidableEq
def m0(u:TUnit):List PWord:=u.head++u.words
mutual
def mM:TUnit→List PWord
 |⟨_,_,_,_,_,h,w,ks⟩=>(h++w)++kw ks
def kw:List TUnit→List PWord
 |[]=>[]
 |k::r=>mM k++kw r
end
theorem KR(u:TUnit):mM u=m0 u++kw u.kids:=by obtain⟨a,b,c,d,e,h,w,ks⟩:=u;rw[mM];rfl
theorem Cr:kw []=[]:=by rw[kw]
theorem sg(k:TUnit)(r:List TUnit):kw (k::r)=mM k++kw r:=by rw[kw]
theorem n7{k:Int}:∀{m:List (Int×Int)},gy k m=none→¬k∈m.map (·.1)
 |[],_=>by simp
 | (i,x)::r,h=>by
  simp only[gy]at h;cases e:ab k i with
  |true=>grind
  |false=>
   rw[e]at h;have:=n7 h;grind[Cq]
section
variable{u w':TUnit}{ws:List PWord}{w:PWord}{r:List PWord}{ks:List TUnit}{m x:List (Int×Int)}{c B:Int}
end
theorem VRel.ls0{pl:Pl}{M:da}{x:Value}(h:VRel pl M (.ls []) x):VRel pl M .nils x∨VRel pl M (.ps [] false) x:=by
 cases h with
 |lsn=>exact .inl .nils
 |lsp h _=>simp_all
theorem EW{P:Program}{G:ee}{f:FuncId}{a b c:List AV}{h:AHeap}{Ψ:AV→AHeap→Prop}(hs:∀pl M vs,VRels pl M c vs→VRels pl M a vs∨VRels pl M b vs)(h1:aE P G f a h Ψ)(h2:aE P G f b h Ψ):aE P G f c h Ψ:=fun pl M w vs hg hr hv=>(hs pl M vs hv).elim (h1 pl M w vs hg hr) (h2 pl M w vs hg hr)
theorem VRels.first{pl:Pl}{M:da}{x y z:AV}{r:List AV}{vs:Array Value}(h:VRels pl M (z::r) vs)(hs:∀v,VRel pl M z v→VRel pl M x v∨VRel pl M y v):VRels pl M (x::r) vs∨VRels pl M (y::r) vs:=by
 obtain⟨h1,h2⟩:=h;have lift:∀u,VRel pl M u (vs.getD 0 undef)→VRels pl M (u::r) vs:=fun u hu=>⟨h1,fun j y hj=>by
  cases j with
  |zero=>grind
  |succ j=>simp_all⟩
 exact(hs _ (h2 0 z rfl)).imp (lift x) (lift y)
end Go.Ev
namespace Go.Ev
open Go
theorem aC{n b m:Nat}(h1:n≤m)(h2:m≤2^40)(h3:m*b≤2^40):small n b=true:=by
 unfold small;have h4:n*b≤m*b:=eb b h1;grind[Nat.ble_eq_true_of_le]
def XW(d:Int):List Int→List Int
 |[]=>[d]
 |x::r=>bif ap x d then x::XW d r else bif ab x d then x::r else d::x::r
def eD(ws:List PWord)(l:List Int):List Int:=ws.foldl (fun l w=>XW w.act l) l
end Go.Ev
namespace Go.Ev
open Go
def R3{α:Type}:Result α→World
 | .ok _ w=>w
 | .halt _ w=>w
def gW:GStep→World
 | .go _ w _=>w
 | .comm _ _ _ _ w _=>w
 | .spawn _ _ w _=>w
 | .count _ w _=>w
 | .timer _ _ w _=>w
 | .alone _ _ w _=>w
 | .newcoro _ _ _ w _=>w
 | .coroswitch _ _ _ w _=>w
 | .collect _ w _=>w
 | .watch _ w _=>w
 | .ended _ w _=>w
theorem lQ(es:Array Event)(g:GStep):gW (GStep.after es g)=gW g:=by cases g<;>rfl
theorem IE{α:Type}:∀(q:Ask α)(w:World),w.drawn≤(w.ask q).2.drawn
 | .done a,w=>ah _
 | .ask what range k,w=>by
  rw[World.ask];split
  ·exact IE (k 0) w
  ·exact bN (nC _) (IE _ {w with drawn:=w.drawn+1})
theorem N4(w:World)(c:Sys):w.drawn≤(w.sys c).2.drawn:=by
 unfold World.sys;have h:=IE (Kernel.perform c w.os) w;grind
theorem wI{p:Program}{w w':World}{at_:Addr}{u:TypeId}{k:Addr}{v:Value}{b:Bool}{l:List Addr}(h:w.viewStore p at_ u k v b=.ok (w',l)):w'.drawn=w.drawn:=by
 unfold World.viewStore at h;simp only[bind,Except.bind,pure,Except.pure]at h
 repeat' split at h
 all_goals first|cases h;done|(injection h with h;injection h with h1 h2;rw[←h1])
theorem zn{p:Program}{w w':World}{a:Addr}{v:Value}{b:Bool}{l:List Addr}(h:w.farStore p a v b=.ok (w',l)):w'.drawn=w.drawn:=by
 unfold World.farStore at h
 repeat' split at h
 all_goals first|cases h;done|grind[wI]
theorem Dd(w:World)(a:Addr)(n:Nat):(w.freeze a n).drawn=w.drawn:=by unfold World.freeze;grind
theorem Oz(p:Program){α:Type}(s:Sem α):∀(w:World),w.drawn≤(R3 (s.run p w)).drawn:=by
 induction s with
 |pure a=>exact fun w=>ah _
 |load m a k ih=>
  intro w;simp only[Sem.run]
  repeat' split
  all_goals first|exact ih _ _|exact ah _
 | store m a v k ih=>
  intro w;cases v
  all_goals simp only[Sem.run]
  all_goals first
   |exact ah _
   |((repeat' split);all_goals first|exact ah _|exact ih (w.setCell _ _)|(rename_i e;refine bN ?_ (ih _);rw[zn e];exact ah _))
 |new o k ih=>grind[Sem.run]
 |shape r k ih=>grind[Sem.run]
 |freeze a n k ih=>intro w;simp only[Sem.run];refine bN ?_ (ih _);simp_all[Dd]
 |frozen a k ih=>grind[Sem.run]
 |getObj r k ih=>
  intro w;simp only[Sem.run]
  repeat' split
  all_goals first|exact ih _ _|exact ah _
 |setObj r o k ih=>
  intro w;simp only[Sem.run]
  repeat' split
  all_goals first|exact ih {w with heap:=w.heap.setIfInBounds r o}|exact ah _
 |choose q k ih=>
  intro w;simp only[Sem.run];grind
 |sys c k ih=>grind[Sem.run,N4]
 |program k ih=>grind[Sem.run]
 |mark m k ih=>grind[Sem.run]
 |halt h=>exact fun w=>ah _
theorem ce{p:Program}{α:Type}{s:Sem α}{w:World}{r:Result α}(h:s.run p w=r):w.drawn≤(R3 r).drawn:=h▸Oz p s w
theorem RS{p:Program}{α:Type}{s:Sem α}{w:World}{es es':Array Event}{r:Result α}(h:s.runT p w es=(r,es')):w.drawn≤(R3 r).drawn:=by
 have:=Sem.runT_fst p s w es;rw[h]at this;exact ce this.symm
theorem Il(w:World)(fd:Nat)(text:ByteArray)(o:Outcome):w.drawn≤(gW (endWith w fd text o)).drawn:=by
 unfold endWith;simp only[];have h:=N4 w (.write fd text);split;all_goals (rename_i e;rw[e]at h)
 all_goals repeat' split
 all_goals exact h
theorem wc(fr:Frame)(m:String)(w:World):w.drawn≤(gW (endThrow fr m w)).drawn:=ah _
theorem qe(p:Program)(fr:Frame)(v:Value)(w:World):w.drawn≤(gW (endPrinting p fr v w)).drawn:=by
 unfold endPrinting;simp only[]
 repeat' split
 all_goals exact ah _
theorem we(p:Program)(fr:Frame)(cs:List Frame)(d:Option Dying)(m:String)(w:World):w.drawn≤(gW (endFatal p fr cs d m w)).drawn:=by
 unfold endFatal;simp only[];split;all_goals (rename_i e;exact ce e)
theorem Hq(p:Program)(fr:Frame)(d:Dying)(f:Fatal)(w:World):w.drawn≤(gW (writeOn p fr d f w)).drawn:=by
 unfold writeOn;split
 ·exact ah _
 ·simp only[];split;all_goals (rename_i e;exact RS e)
theorem WY(p:Program)(fr:Frame)(d:Dying)(w:World):w.drawn≤(gW (die p fr d w)).drawn:=by
 unfold die;split
 ·grind[Hq]
 ·split
  ·split
   ·exact ah _
   grind[Il]
  ·simp only[];split
   ·exact ah _
   ·split;all_goals (rename_i e;exact ce e)
   ·rw[lQ];split;all_goals first|(rename_i e;exact ce ((Sem.runT_fst ..).symm.trans e))|skip
    ·rename_i e;exact bN (ce ((Sem.runT_fst ..).symm.trans e)) (qe ..)
    ·exact ah _
   ·exact ah _
theorem qg(p:Program)(main:Bool)(fr:Frame)(cs:List Frame)(d:Option Dying)(v:Value)(w:World):w.drawn≤(gW (doReturn p main fr cs d v w)).drawn:=by
 unfold doReturn
 repeat' split
 all_goals exact ah _
theorem sq{c:Prop}[Decidable c]{a b:GStep}{n:Nat}(h1:n≤(gW a).drawn)(h2:n≤(gW b).drawn):n≤(gW (if c then a else b)).drawn:=by grind
theorem xQ(p:Program)(fr:Frame)(cs:List Frame)(dy:Option Dying)(d:Deferred)(w:World):w.drawn≤(gW (callDeferred p fr cs dy d w)).drawn:=by
 unfold callDeferred;refine sq ?_ ?_
 ·exact ah _
 ·simp only[];rw[lQ];split;all_goals (rename_i e;have h:=ce ((Sem.runT_fst ..).symm.trans e))
  all_goals first|exact h|exact bN h (we ..)|((repeat' split)<;>exact h)
theorem LQ(p:Program)(main:Bool)(fr:Frame)(cs:List Frame)(dy:Option Dying)(w:World):w.drawn≤(gW (unwind p main fr cs dy w)).drawn:=by
 unfold unwind;split
 ·simp only[];rw[lQ];split;all_goals (rename_i e;exact ce ((Sem.runT_fst ..).symm.trans e))
 ·grind[xQ]
 ·split
  ·exact ah _
  ·split
   ·exact ah _
   ·split
    ·exact ah _
    ·split
     ·split
      ·exact ah _
      ·split;all_goals (rename_i e;exact ce e)
     ·split
      ·grind[qe]
      ·exact ah _
  ·split
   ·grind[qg]
   ·simp only[];rw[lQ];split;all_goals (rename_i e;have h:=ce ((Sem.runT_fst ..).symm.trans e))
    all_goals first|exact h|exact bN h (qg ..)
theorem Qf(p:Program)(fr:Frame)(cs:List Frame)(dy:Option Dying)(g:Nat)(w:World):w.drawn≤(gW (early p fr cs dy g w)).drawn:=by
 unfold early;simp only[]
 repeat' split
 all_goals first|exact ah _|(rename_i e;exact ce e)|(rename_i e _;exact ce e)|(rename_i e _ _;exact ce e)|(rename_i e _ _ _ _;exact ce e)
theorem uY(p:Program)(listen:Bool)(fr:Frame)(cs:List Frame)(dy:Option Dying)(s:Sem Next)(w:World):w.drawn≤(gW (stepG.apply p listen fr cs dy s w)).drawn:=by
 unfold stepG.apply;simp only[];rw[lQ];have h0:w.drawn≤(R3 (if listen=true then Sem.runT p s w #[]else(Sem.run p s w,#[])).fst).drawn:=by
  cases listen
  ·grind[Oz]
  ·exact ce (Sem.runT_fst ..).symm
 generalize (if listen=true then Sem.runT p s w #[]else(Sem.run p s w,#[])).fst=r at h0 ⊢;split;all_goals first|exact h0|exact bN h0 (we ..)|exact bN h0 (Qf ..)|exact bN h0 (wc ..)|skip
 all_goals repeat' split
 all_goals first|exact h0|exact bN h0 (wc ..)|skip
theorem Sk(p:Program)(listen:Bool)(fr:Frame)(cs:List Frame)(dy:Option Dying)(w:World):w.drawn≤(gW (stepG.oper p listen fr cs dy w)).drawn:=by
 unfold stepG.oper;split
 ·exact ah _
 ·split;all_goals exact uY ..
theorem Ti(p:Program)(main listen:Bool)(fr:Frame)(cs:List Frame)(dy:Option Dying)(w:World):w.drawn≤(gW (stepG.exec p main listen fr cs dy w)).drawn:=by
 have lv:∀(l:Nat)(jump:Option Code),w.drawn≤(gW (GStep.after (seen p fr.fn ((Instr.endRound l jump).runT p w #[]).snd) (match((Instr.endRound l jump).runT p w #[]).fst with| .ok v w=>doReturn p main fr cs dy v w| .halt _ w=>.ended (.stuck "range over a function: no such loop" (fr.pos p)) w))).drawn :=by
  intro l jump;rw[lQ];have h0:=ce (Sem.runT_fst p (Instr.endRound l jump) w #[]).symm;split;all_goals (rename_i e;rw[e]at h0)
  ·exact bN h0 (qg ..)
  ·exact h0
 unfold stepG.exec;simp only[];split;all_goals first|exact ah _|exact uY .. |skip
 ·split
  ·exact sq (ah _) (ah _)
  grind
 ·split
  ·exact sq (ah _) (ah _)
  grind
 ·split<;>exact ah _
 ·rename_i id k _;cases exitTo id k with
  |none=>simp only[Option.elim];split;exact sq (ah _) (ah _);grind
  |some k'=>exact ah _
 ·rename_i id k _;cases gotoIn id k with
  |none=>simp only[Option.elim];split;exact sq (ah _) (ah _);grind
  |some k'=>exact ah _
 ·rw[lQ];split
  ·rename_i e;exact bN (ce ((Sem.runT_fst ..).symm.trans e)) (uY ..)
  ·rename_i e;exact ce ((Sem.runT_fst ..).symm.trans e)
 ·rw[lQ];split<;>rename_i e<;>exact ce ((Sem.runT_fst ..).symm.trans e)
 ·rename_i row _ _ _;cases Extern.next row with
  |none=>exact ah _
  |some e=>grind[uY]
 ·refine sq (ah _) ?_;split<;>rename_i e<;>exact ce e
 ·exact sq (Sk ..) (ah _)
theorem N7(p:Program)(main listen:Bool)(g:Goroutine)(w:World):w.drawn≤(gW (stepG p main g w listen)).drawn:=by
 unfold stepG;grind[WY,Ti,LQ]
def sD(n:Nat):Stepped→Prop
 | .next m=>n≤m.world.drawn
 | .ended _ _=>True
theorem sD.trans{n k:Nat}{s:Stepped}(h:n≤k)(g:sD k s):sD n s:=by
 cases s with
 |next m=>exact bN h g
 |ended o w=>trivial
theorem Pc{c:Prop}[Decidable c]{a b:Stepped}{n:Nat}(h1:sD n a)(h2:sD n b):sD n (if c then a else b):=by grind
theorem JM(p:Program)(gs:Array Goroutine)(rest:Rest)(w:World):sD w.drawn (look p gs rest w):=by
 unfold look;simp only[];split
 ·refine Pc trivial ?_;split
  ·trivial
  ·split<;>rename_i e<;>first|exact ce e|trivial
 ·trivial
theorem wH{rest:Rest}{cases:Array CommCase}{w w':World}(h:waitingAt rest cases w=some w'):w'.drawn=w.drawn:=by
 unfold waitingAt at h
 repeat' split at h
 all_goals first|(cases h;done)|(cases h;rfl)
theorem Dj{c:Prop}[Decidable c]{a b:Stepped×Array MemOp}{n:Nat}(h1:sD n a.1)(h2:sD n b.1):sD n (if c then a else b).1:=by grind
theorem zT(p:Program)(rest:Rest)(gs:Array Goroutine)(i:Nat)(g:Goroutine)(cs:Array CommCase)(bl:Bool)(sh:CommShape)(w:World):sD w.drawn (communicate p rest gs i g cs bl sh w).1:=by
 unfold communicate;simp only[];refine Dj trivial (Dj (Dj ?_ (ah _)) ?_)
 ·split
  ·rename_i e;exact vi (wH e).symm
  ·trivial
 ·split
  ·trivial
  ·rename_i w1 e;have h:w.drawn≤w1.drawn:=ce e;clear e;split
   ·split
    ·rename_i e;exact bN h (ce e)
    ·trivial
   ·exact h
   ·exact h
   ·split
    ·exact h
    ·split
     ·rename_i e;exact bN h (ce e)
     ·trivial
   ·exact h
   ·exact h
   ·trivial
theorem OY(p:Program)(m:Machine)(k:Nat):sD m.world.drawn (serve p m k):=by
 unfold serve;split
 ·trivial
 ·exact ah _
 ·simp only[];split
  ·trivial
  ·exact ah _
theorem Ad{m m':Machine}{op:TimerOp}{v:Value}(h:timerOp m op=.ok (v,m')):m'.world.drawn=m.world.drawn:=by
 have rt:∀(m:Machine)(k:Nat)(t:Timer)(a b:Nat),(retime m k t a b).2.world.drawn=m.world.drawn:=by
  intro m k t a b;unfold retime drain;grind
 cases op with
 |new t=>
  simp only[timerOp]at h
  repeat' split at h
  all_goals first|(cases h;done)|(cases h;rfl)
 |stop var=>
  simp only[timerOp,timerOp.named]at h;grind
 | reset var a b=>
  simp only[timerOp,timerOp.named,timerOp.opened]at h;split at h
  ·rename_i e;have e2:∀m2:Machine,(if waitedFor m var=true then match Kernel.withPoller m.world.os with| .ok os=>some {m with world:={m.world with os}}| .error _=>none else some m)=some m2→m2.world.drawn=m.world.drawn:=by
    intro m2 e
    repeat' split at e
    all_goals first|(cases e;done)|(cases e;rfl)
   grind
  ·grind
 |deadline a b c d=>simp only[timerOp]at h;cases h;rfl
theorem RR(p:Program)(m:Machine)(i:Nat)(b:Bool):sD m.world.drawn (runT p m i b).1:=by
 unfold runT;simp only[];have h:=N7 p (i==0) b (m.gs.swapAt! i {(default:Goroutine)with status:=.finished}).1 m.world;generalize stepG p (i==0) (m.gs.swapAt! i {(default:Goroutine)with status:=.finished}).1 m.world b=s at h ⊢;cases s
 all_goals simp only[]
 all_goals try exact h
 all_goals try trivial
 ·exact sD.trans h (zT ..)
 ·exact Pc trivial h
 ·split
  ·rename_i e;exact bN h (vi (Ad e).symm)
  ·split
   ·rename_i e;cases e;exact h
   ·trivial
  ·trivial
  ·trivial
 ·split
  ·exact h
  ·split
   ·rename_i e;cases e;exact h
   ·trivial
  ·trivial
 ·exact sD.trans h (JM ..)
def Ng(n:Nat):Move→Prop
 | .goroutine m _=>n≤m.world.drawn
 | .machine s _=>sD n s
theorem Ng.trans{n k:Nat}{s:Move}(h:n≤k)(g:Ng k s):Ng n s:=by
 cases s with
 |goroutine m i=>exact bN h g
 |machine s o=>exact sD.trans h g
theorem AK(p:Program)(m:Machine):Ng m.world.drawn (askOn p m):=by
 have pick:∀(m:Machine)(rs:List Nat),Ng m.world.drawn (match(choose (.sched rs.length)).run p m.world with
   | .halt _ w=>.machine (.ended (.stuck "sched" "") w)
   | .ok k world=>
    if rs.length≤1 then .goroutine {m with world} (rs.getD k 0)else
    match(choose (.extern "sched.slice" 65536)).run p world with
    | .halt _ w=>.machine (.ended (.stuck "sched.slice" "") w)
    | .ok n world=>.goroutine {m with world,rest:={m.rest with slice:=if n=0 then none else some (rs.getD k 0,n)}} (rs.getD k 0)):=by
  intro m rs;split
  ·trivial
  ·rename_i w1 e;have h:m.world.drawn≤w1.drawn:=ce e;split
   ·exact h
   ·split
    ·trivial
    ·rename_i e;exact bN h (ce e)
 unfold askOn;simp only[];split
 ·trivial
 ·rename_i k w1 e;have h:m.world.drawn≤w1.drawn:=ce e;clear e;split
  ·exact sD.trans h (OY p {m with world:=w1} _)
  ·split
   ·split
    ·exact h
    ·split
     ·exact h
     ·split<;>trivial
   ·split
    ·exact Ng.trans h (pick {m with world:=w1} _)
    ·split
     ·trivial
     ·rename_i w2 e;exact Ng.trans (bN h (ce e)) (pick {m with world:=w2} _)
     ·rename_i e;exact bN h (ce e)
     ·rename_i k2 w2 e;exact Ng.trans (bN h (ce e)) (pick (Machine.advanceTo {m with world:=w2} _) _)
theorem KL(p:Program)(m:Machine):Ng m.world.drawn (ask p m):=by
 unfold ask;split
 ·split
  ·trivial
  ·rename_i w1 e;have h:m.world.drawn≤w1.drawn:=ce e;have h2:=JM p m.gs m.rest w1;split
   ·rename_i e2;rw[e2]at h2;exact Ng.trans (bN h h2) (AK ..)
   ·exact sD.trans h h2
  ·rename_i w1 _ e;have h:m.world.drawn≤w1.drawn:=ce e;exact Ng.trans h (AK p {m with world:=w1})
 grind[AK]
theorem Sg(p:Program)(m:Machine):Ng m.world.drawn (move p m):=by
 unfold move;split
 ·split
  ·exact ah _
  ·trivial
 ·split
  ·split
   ·exact ah _
   ·exact KL p {m with rest:={m.rest with slice:=none}}
  grind[KL]
theorem RH(p:Program)(m:Machine):sD m.world.drawn (step p m):=by
 unfold step stepT;have h:=Sg p m;split
 ·rename_i e;rw[e]at h;exact sD.trans h (RR ..)
 ·rename_i e;rw[e]at h;exact h
theorem Ja(p:Program):∀(n:Nat)(m m':Machine),runN p n m=.next m'→m.world.drawn≤m'.world.drawn
 |0,m,m',h=>by cases h;omega
 |n+1,m,m',h=>by
  rw[runN]at h;have h1:=RH p m;split at h
  ·rename_i e;rw[e]at h1;exact bN h1 (Ja p n _ _ h)
  simp_all
theorem N6{p:Program}{m m':Machine}(h:Steps p m m'):m.world.drawn≤m'.world.drawn:=by
 obtain⟨n,h⟩:=h;exact Ja p n m m' h
theorem GP{p:Program}{f:FuncId}{args:Array Value}{w:World}{R:Ending→World→Prop}(h:Calls p f args w R):Calls p f args w fun e w'=>R e w'∧((∃v,e=.returned v)→w.drawn≤w'.drawn):=by
 intro cs;obtain⟨e,w',fr,h1,h2,h3,h4⟩:=h cs;refine⟨e,w',fr,⟨h1,?_⟩,h2,h3,h4⟩
 rintro⟨v,rfl⟩
 exact N6 (m:=lone _ cs w) (m':=lone fr cs w') h2
end Go.Ev
namespace Go.Ev
open Go Go.RowKit
section
variable{P:Program}{G:ee}{pl:Pl}{M:da}{h:AHeap}{w w':World}{f:FuncId}{args:List AV}{v:AV}
theorem cp.below(hr:cp pl M h w)(hb:Below w.heap.size w w'):cp pl M h w':=
 ⟨hr.dom,fun id p o h1 h2=>by rw[hb.block _ (hr.blk id p h1)];exact hr.obj id p o h1 h2,fun id p h1=>Ew (hr.blk id p h1) hb.size,hr.inj,
  fun b c h1=>by rw[hb.block _ (hr.memLt h1)];exact hr.imm b c h1,hr.sep⟩
theorem cM.below(hb:Below w.heap.size w w')(hd:w.drawn≤w'.drawn):cM h pl M w h pl M w':=⟨mS.refl _,fun _ _ h=>h,fun _ _ h=>h,hb.size,fun b h1 _=>hb.block b h1,fun id p h=>.inl ⟨p,h,rfl⟩,fun _ _ _ h=>h,fun _ _ h _=>h,fun _ _ h=>.inl h,hb.os,hb.tape,hb.output,hd⟩
theorem aI.below(hE:∀vs w,(callFunc f vs).run P w=.ok (.enter f vs) w)
  (hC:∀(pl:Pl)(M:da)(w:World)(vs:Array Value)(h:AHeap),pJ G pl M→cp pl M h w→VRels pl M args vs→∃cv,VRel pl M v cv∧Calls P f vs w fun e w'=>e=.returned cv∧Below w.heap.size w w'):aI P G f args v:=by
 intro h pl M w vs hG hr hv;obtain⟨cv,h1,h2⟩:=hC pl M w vs h hG hr hv;refine .inl ⟨hE _ _,Calls.mono (GP h2) fun e w' ⟨⟨he,hb⟩,hd⟩=>?_⟩;exact⟨cv,v,h,he,⟨rfl,rfl⟩,pl,M,h1,hr.below hb,cM.below hb (hd ⟨_,he⟩),ah _⟩
theorem aI.calls(hGT:iD G)(hE:∀vs w,(callFunc f vs).run P w=.ok (.enter f vs) w)(hp:aI P G f args v)(hG:pJ G pl M)(hr:cp pl M h w){vs:Array Value}(hv:VRels (fun _=>none) M args vs):
  Calls P f vs w fun e w'=>(∃cv pl' M',e=.returned cv∧VRel pl' M' v cv)∧Below w.heap.size w w'∧w.drawn≤w'.drawn:=by
 have r0:cp (fun _=>none) M AHeap.none w:=⟨fun _ _ h=>(by grind),fun _ _ _ h _=>(by grind),fun _ _ h=>(by grind),fun _ _ _ _ h _ _=>(by grind),hr.imm,fun _ _ h=>(by grind)⟩
 rcases hp AHeap.none (fun _=>none) M w vs (hG.none hGT) r0 hv with⟨_,h2⟩|⟨cv,w1,v1,h1,e1,_,_⟩
 ·refine Calls.mono h2 fun e w' ⟨cv,v1,h1,he,⟨e1,e2⟩,pl',M',g1,g2,g3,_⟩=>?_
  subst e1;exact⟨⟨cv,pl',M',he,g1⟩,⟨g3.os,g3.tape,g3.out,g3.size,fun b hb=>g3.kept b hb fun id p h=>(by grind)⟩,g3.drawn⟩
 ·grind
end
end Go.Ev
namespace Go.Ev
open Go
def Pr(lo hi:Int)(c:UInt8):Bool:=ax (ap (.ofNat c.toNat) lo||ap hi (.ofNat c.toNat))
abbrev kW:UInt8→Bool:=Pr 48 57
abbrev Wb:UInt8→Bool:=Pr 65 90
def eX(p:UInt8→Bool)(s:aP):Nat:=(s.takeWhile p).length
section
variable{p:UInt8→Bool}{s:aP}
theorem Jb:eX p s≤s.length:=(List.takeWhile_prefix p).length_le
theorem Jc:∀{s:aP}{i:Nat},i<eX p s→p (gD s i)=true
 |[],i,h=>by simp_all[eX]
 | c::r,i,h=>by
  cases hc:p c with
  |false=>simp_all[eX]
  |true=>
   cases i with
   |zero=>exact hc
   |succ i=>exact Jc (s:=r) (by simp_all[eX])
theorem E4:∀{s:aP},eX p s<s.length→p (gD s (eX p s))=false
 |[],h=>by simp_all
 | c::r,h=>by
  cases hc:p c with
  |false=>simp[eX,hc,gD]
  |true=>
   have h2:eX p r<r.length:=by simp_all[eX]
   have:=E4 (s:=r) h2;simp_all[eX,gD]
theorem uD:∀{s:aP},eX p s=s.length↔s.all p=true
 |[]=>by simp[eX]
 |c::r=>by
  have ih:eX p r=r.length↔r.all p=true:=uD;cases hc:p c with
  |false=>simp[eX,hc]
  |true=>simp_all[eX]
end
theorem VC{lo hi:Int}{c:UInt8}(h1:ap hi (.ofNat c.toNat)=true):Pr lo hi c=false:=by grind[Pr]
def j5(s:aP):Bool:=ax (ap (.ofNat (s.take (eX kW s)).length) 1)&&(ax (ap 4 (.ofNat (s.take (eX kW s)).length))&&(ax (ab (.ofNat (gD (s.take (eX kW s)) 0).toNat) 48)&&(ax (ap 3 (.ofNat (s.drop (eX kW s)).length))&&(s.drop (eX kW s)).all Wb)))
def rj(s:aP):Bool:=ax (ap (.ofNat s.length) 1)&&(ax (ap 24 (.ofNat s.length))&&s.all (Pr 33 126))
def pO(l:List aP):Bool:=ax (ap 256 (.ofNat l.length))&&l.all rj
theorem DU:({data:=#[]}:ByteArray).data.toList=([]:List UInt8):=rfl
theorem Qc(s:aP):ap (.ofNat s.length) 1=dR s []:=by cases s<;>rfl
def co{α:Type}(p:α→Bool):List α→Nat→Int
 |[],_=> -1
 |x::r,i=>bif p x then Int.ofNat i else co p r (i+1)
theorem jY{α:Type}(p:α→Bool):∀(l:List α)(i:Nat),ap (co p l i) 0=ax (l.any p)
 |[],_=>rfl
 |x::r,i=>by
  unfold co;rw[List.any_cons];cases h:p x with
  |true=>rfl
  |false=>simp_all[jY]
section
variable{α:Type}{p:α→Bool}{l x r:List α}{w:α}{j:Nat}
theorem oW(h1:l.drop j=x)(h2:x=w::r):l.length-(w::r).length=j∧l.length-r.length=j+1:=by grind
theorem j7(h1:l.drop j=x)(h2:x=w::r)(h3:co p l 0=co p (w::r) (l.length-(w::r).length))(h4:p w=true):co p l 0=Int.ofNat j:=by rw[h3,(oW h1 h2).1,co,h4];rfl
theorem ie(h1:l.drop j=x)(h2:x=w::r)(h3:co p l 0=co p (w::r) (l.length-(w::r).length))(h4:p w=false):co p l 0=co p r (l.length-r.length):=by rw[h3,(oW h1 h2).1,(oW h1 h2).2,co,h4];rfl
theorem B0:co p l 0=co p l (l.length-l.length):=by simp_all
end
def mN(s:PStep):Bool:=ab s.kind 0&&dR s.label []
def sI(s:PStep):Bool:=ap 0 s.kind&&(ax (ap 7 s.kind)&&j5 s.label)
def Nq:List PStep→Bool
 |[]=>true
 |s::r=>(mN s||sI s)&&r.all sI
def ky(p:List PStep):Bool:=Nq p&&ax (ap 9 (.ofNat p.length))
def G8(p r:List PStep):Bool:=bif Nat.beq r.length p.length then Nq r else r.all sI
theorem NU{p:List PStep}:Nq p=G8 p p:=by simp_all[G8]
theorem UX{p:List PStep}:G8 p []=true:=by unfold G8;cases Nat.beq ([]:List PStep).length p.length<;>rfl
theorem DS{p x r:List PStep}{w:PStep}{j:Nat}(h1:p.drop j=x)(h2:x=w::r)(h3:Nq p=G8 p (w::r)):Nq p=((bif ab (Int.ofNat j) 0 then(mN w||sI w)else sI w)&&G8 p r):=by
 obtain⟨e1,e2⟩:=oW h1 h2;have e3:=congrArg List.length (h1.trans h2);simp only[xF,cF]at e1 e2 e3;have f1:Nat.beq r.length p.length=false:=by cases h:Nat.beq r.length p.length with|false=>rfl|true=>grind[Nat.eq_of_beq_eq_true]
 rw[h3];unfold G8;rw[f1];cases j with
 |zero=>
  have f2:Nat.beq (w::r).length p.length=true:=by simp_all
  rw[f2];rfl
 |succ j=>
  have f2:Nat.beq (w::r).length p.length=false:=by cases h:Nat.beq (w::r).length p.length with|false=>rfl|true=>simp_all
  rw[f2];rfl
def cN:Int→aP
 |0=>[98,111,111,107]
 |1=>[112,97,114,116]
 |2=>[115,101,99,116,105,111,110]
 |3=>[112,97,114,97,103,114,97,112,104]
 |4=>[116,97,98,108,101]
 |5=>[114,111,119]
 |6=>[99,101,108,108]
 |7=>[110,111,116,101]
 |_=>[]
def Hd:Int→List Int
 |0=>[1,2]
 |1=>[2]
 |2=>[3,4,7]
 |3=>[3,4,7]
 |4=>[5]
 |5=>[6]
 |_=>[]
def i9(p k:Int):Bool:=(Hd p).any (ab k)
theorem H8{k:Int}(h:k<0∨7<k):cN k=[]:=by
 unfold cN;grind
theorem Hc{k:Int}(h:k<0∨7<k):Hd k=[]:=by
 unfold Hd;grind
end Go.Ev
namespace Go.Ev
open Go Go.RowKit Go.Proofs
structure ClassOf(p:UInt8→Bool)(q:Nat→Bool):Prop where
 low:∀c:UInt8,c.toNat<128→q c.toNat=ax (p c)
 high:∀n,128≤n→q n=true
 none:∀c:UInt8,128≤c.toNat→p c=false
theorem Ty{s:aP}{i:Nat}(h:i<s.length)(h2:i<ByteArray.size ⟨⟨s⟩⟩):(ByteArray.mk ⟨s⟩)[i]'h2=gD s i:=by
 simp[gD,List.getD,kM h];rfl
theorem tg{p:UInt8→Bool}{q:Nat→Bool}(hc:ClassOf p q)(s:aP):∀(f pos:Nat),pos≤eX p s→s.length≤pos+f→Lib.idxFuncFrom q true ⟨⟨s⟩⟩ f pos=(bif Nat.beq (eX p s) s.length then -1 else Int.ofNat (eX p s))
 | f,pos,h1,h2=>by
  have hl:=Jb (p:=p) (s:=s);have hsz:ByteArray.size ⟨⟨s⟩⟩=s.length:=rfl;by_cases he:pos<s.length
  ·cases f with
   |zero=>omega
   | succ f=>
    unfold Lib.idxFuncFrom;rw[hsz,if_pos he];have hb:=Ty he (by rw[hsz];exact he);by_cases hr:pos<eX p s
    ·have hp:=Jc hr;have ha:(gD s pos).toNat<128:=by
      rcases eH (gD s pos).toNat 128 with h|h
      ·exact h
      ·rw[hc.none _ h]at hp;cases hp
     rw[decode_ascii _ pos (by rw[hsz];exact he) (by rw[hb];exact ha),hb];rw[if_neg (by rw[hc.low _ ha,hp];decide)];exact tg hc s f (pos+1) hr (by omega)
    ·have e:eX p s=pos:=by omega
     have hp:=E4 (p:=p) (s:=s) (by omega);rw[e]at hp;have hq:q (Utf8.decode ⟨⟨s⟩⟩ pos).1=true:=by
      rcases eH (gD s pos).toNat 128 with h|h
      ·rw[decode_ascii _ pos (by rw[hsz];exact he) (by rw[hb];exact h),hb,hc.low _ h,hp];rfl
      ·exact hc.high _ (decode_high _ pos (by rw[hsz];exact he) (by rw[hb];exact h)).1
     rw[if_pos hq,e];have f1:Nat.beq pos s.length=false:=by cases h:Nat.beq pos s.length with|false=>rfl|true=>have:=pU h;omega
     rw[f1];rfl
  ·have e:eX p s=s.length:=by omega
   rw[Lib.idxFuncFrom_end _ _ _ _ _ (by rw[hsz];exact he),e,nr];rfl
theorem wz{p:UInt8→Bool}{q:Nat→Bool}(hc:ClassOf p q)(s:aP):Lib.idxFunc q true ⟨⟨s⟩⟩=(bif Nat.beq (eX p s) s.length then -1 else Int.ofNat (eX p s)):=tg hc s _ 0 (bD _) (by show s.length≤0+s.length;omega)
section
variable{P:Program}{G:ee}{f g:FuncId}
theorem Bi{pl:Pl}{M:da}{w:World}{h:AHeap}(hGT:iD G)(hg2:∀args w,(callFunc g args).run P w=.ok (.enter g args) w){q:Nat→Bool}{qI:Int→Bool}(hp:∀r:Int,aI P G g [.int .i32 r] (.bool (qI r)))(hq:∀n:Nat,qI (.ofNat n)=q n)
  (hG:pJ G pl M)(hr:cp pl M h w):PredGrows P g #[] q w:=by
 intro W x _ hb;refine Calls.mono (aI.calls hGT hg2 (hp (.ofNat x)) hG (hr.below hb) (vs:=#[.int .i32 (.ofNat x)]) ⟨rfl,fun j y hj=>?_⟩) fun e w' ⟨⟨cv,pl',M',he,hv⟩,hb',_⟩=>?_
 ·cases j with
  |zero=>simp at hj;subst hj;exact .int _ _
  |succ j=>simp_all
 grind[cases VRel]
theorem zj(hGT:iD G)(hE:∀vs w,(callFunc f vs).run P w=.ok (.enter f vs) w)(hg2:∀args w,(callFunc g args).run P w=.ok (.enter g args) w){q:Nat→Bool}{qI:Int→Bool}
  (hC:∀(s:ByteArray)(w:World),PredGrows P g #[] q w→Calls P f #[.string s,.func (.func g) #[] #[]] w fun e w'=>e=.returned (.int .i64 (Lib.idxFunc q true s))∧Below w.heap.size w w')
  (hp:∀r:Int,aI P G g [.int .i32 r] (.bool (qI r)))(hq:∀n:Nat,qI (.ofNat n)=q n){p:UInt8→Bool}(hc:ClassOf p q)(s:aP):
  aI P G f [.str s,.func (.func g) [] []] (.int .i64 (bif Nat.beq (eX p s) s.length then -1 else Int.ofNat (eX p s))):=by
 refine aI.below hE fun pl M w vs h hG hr hv=>?_
 obtain⟨a,b,rfl,hv1,hv2⟩:=Aq hv;have e2:=yh hv2;subst e2;cases hv1
 rw[←wz hc s];exact⟨_,.int _ _,hC ⟨⟨s⟩⟩ w (Bi hGT hg2 hp hq hG hr)⟩
theorem uZ(hGT:iD G)(hE:∀vs w,(callFunc f vs).run P w=.ok (.enter f vs) w)(hg2:∀args w,(callFunc g args).run P w=.ok (.enter g args) w){q:Nat→Bool}{qI:Int→Bool}
  (hC:∀(s:ByteArray)(w:World),PredGrows P g #[] q w→Calls P f #[.string s,.func (.func g) #[] #[]] w fun e w'=>e=.returned (.bool (decide (0≤Lib.idxFunc q true s)))∧Below w.heap.size w w')
  (hp:∀r:Int,aI P G g [.int .i32 r] (.bool (qI r)))(hq:∀n:Nat,qI (.ofNat n)=q n){p:UInt8→Bool}(hc:ClassOf p q)(s:aP):
  aI P G f [.str s,.func (.func g) [] []] (.bool (ax (s.all p))):=by
 refine aI.below hE fun pl M w vs h hG hr hv=>?_
 obtain⟨a,b,rfl,hv1,hv2⟩:=Aq hv;have e2:=yh hv2;subst e2;cases hv1
 have e:ax (s.all p)=decide (0≤Lib.idxFunc q true ⟨⟨s⟩⟩):=by
  rw[wz hc s];cases ha:s.all p with
  |true=>rw[(uD (p:=p)).2 ha,nr];rfl
  | false=>
   have:Nat.beq (eX p s) s.length=false:=by
    cases hb:Nat.beq (eX p s) s.length with
    |false=>rfl
    |true=>grind[uD,Nat.eq_of_beq_eq_true]
   simp_all
 rw[e];exact⟨_,.bool _,hC ⟨⟨s⟩⟩ w (Bi hGT hg2 hp hq hG hr)⟩
end
theorem GI{lo hi:Nat}(h:hi<128):ClassOf (Pr (Int.ofNat lo) (Int.ofNat hi)) fun n=>ap (Int.ofNat n) (Int.ofNat lo)||ap (Int.ofNat hi) (Int.ofNat n) where
 low c _:=by unfold Pr;simp_all
 high n hn:=by rw[show ap (Int.ofNat hi) (Int.ofNat n)=true from nQ (by grind)];simp_all
 none c hn:=VC (nQ (by grind))
end Go.Ev
namespace Go.Ev
open Go Go.RowKit
section
variable{P:Program}{G:ee}{f:FuncId}
theorem Hf{pl:Pl}{M:da}{w:World}{h:AHeap}(hr:cp pl M h w){l:List aP}{a:Addr}{n cap:Nat}(hv:VRel pl M (.ps (l.map mE) false) (.slice (some a) n cap))(hne:l≠[]):
  n=l.length∧n≤cap∧a=⟨a.block,a.off,none⟩∧a.block<w.heap.size∧∀(j:Nat)(x:ByteArray),(l.map fun s=>(⟨⟨s⟩⟩:ByteArray))[j]?=some x→w.cell? ⟨a.block,a.off+j,none⟩=some (.string x):=by
 cases hv with
 | ps hl ht hm hs hc=>
  rename_i sz c;have hne':l.map mE≠[]:=by simp_all
  obtain⟨m1,m2,m3,m4⟩:=hm hne';obtain⟨t,fr,hb⟩:=hr.imm _ _ m2;have hsz:sz=1:=by
   cases l with
   |nil=>simp_all
   |cons s r=>exact((hs (mE s) (by simp)).1).symm
  subst hsz;refine⟨by simp,hl,by rw[←m1],hr.memLt m2,fun j x hj=>?_⟩;rw[pu]at hj;obtain⟨s,e1,rfl⟩:=Ej.1 hj;have hlt:j<l.length:=(gV.1 e1).1;have q:=hc j (mE s) 0 (.str s) (by simp_all) rfl;rw[Nat.mul_one,pq]at q;have hin:a.off+j<c.size:=by grind
  have e2:c[a.off+j]?=some (c.getD (a.off+j) undef):=by simp_all
  simp only[World.cell?,hb];simp only[Option.isSome_none,gZ,if_false];rw[e2];cases hq:c.getD (a.off+j) undef<;>rw[hq]at q<;>cases q
  rfl
theorem L1(hE:∀vs w,(callFunc f vs).run P w=.ok (.enter f vs) w)
  (hC:∀(bk o c:Nat)(xs:List ByteArray)(sep:ByteArray)(w:World),(∀(j:Nat) x,xs[j]?=some x→w.cell? ⟨bk,o+j,none⟩=some (.string x))→bk<w.heap.size→xs.length≤140737488355328→xs.length≤c→
   (Lib.join (xs.map (·.data.toList)) sep.data.toList).length≤140737488355328→
   Calls P f #[.slice (some ⟨bk,o,none⟩) xs.length c,.string sep] w fun e w'=>e=.returned (.string ⟨(Lib.join (xs.map (·.data.toList)) sep.data.toList).toArray⟩)∧Below w.heap.size w w')
  (hN:∀(a:Option Addr)(c:Nat)(sep:ByteArray)(w:World),Calls P f #[.slice a 0 c,.string sep] w fun e w'=>e=.returned (.string ⟨#[]⟩)∧w'=w)
  (l:List aP)(sep:aP)(h1:l.length≤140737488355328)(h2:(Lib.join l sep).length≤140737488355328):aI P G f [.ls (l.map mE),.str sep] (.str (Lib.join l sep)):=by
 refine aI.below hE fun pl M w vs h hG hr hv=>?_
 obtain⟨a,b,rfl,hv1,hv2⟩:=Aq hv;cases hv2
 have nil (p:Option Addr) (cap:Nat) (hl:l=[]):∃cv,VRel pl M (.str (Lib.join l sep)) cv∧Calls P f #[.slice p 0 cap,.string ⟨⟨sep⟩⟩] w fun e w'=>e=.returned cv∧Below w.heap.size w w':=by
  subst hl;exact⟨.string ⟨⟨[]⟩⟩,.str _,Calls.mono (hN p cap ⟨⟨sep⟩⟩ w) fun e w' ⟨he,hw⟩=>⟨he,hw▸Below.refl _ _⟩⟩
 generalize hx:l.map mE=xs at hv1;cases hv1 with
 |lsn=>simp_all
 | lsp hp ht=>
  subst hx;by_cases hl:l=[]
  ·subst hl;cases hp with
   |ps=>simp_all
  ·have hp':=hp;cases hp with
   |ps=>
    rename_i a cap sz c _ _ _ _ _;obtain⟨e1,e2,e3,e4,e5⟩:=Hf hr hp' hl;have e6:(l.map fun s=>(⟨⟨s⟩⟩:ByteArray)).map (·.data.toList)=l:=by rw[List.map_map];exact List.map_id l
    have:=hC a.block a.off cap (l.map fun s=>⟨⟨s⟩⟩) ⟨⟨sep⟩⟩ w e5 e4 (by grind) (by grind) (by grind);rw[e6,←e3,b6,←e1]at this;exact⟨.string ⟨⟨Lib.join l sep⟩⟩,.str _,this⟩
theorem E6(hE:∀vs w,(callFunc f vs).run P w=.ok (.enter f vs) w)
  (hC:∀(s:ByteArray)(c:Nat)(w:World),c≤9223372036854775807→s.size*c≤140737488355328→Calls P f #[.string s,.int .i64 c] w fun e w'=>e=.returned (.string ⟨(Lib.repeatL s.data.toList c).toArray⟩)∧Below w.heap.size w w')
  (s:aP)(c:Nat)(h1:c≤9223372036854775807)(h2:s.length*c≤140737488355328):aI P G f [.str s,.int .i64 (.ofNat c)] (.str (Lib.repeatL s c)):=by
 refine aI.below hE fun pl M w vs h hG hr hv=>?_
 obtain⟨a,b,rfl,hv1,hv2⟩:=Aq hv;cases hv1;cases hv2
 exact⟨.string ⟨⟨Lib.repeatL s c⟩⟩,.str _,hC ⟨⟨s⟩⟩ c w h1 h2⟩
theorem LZ(hE:∀vs w,(callFunc f vs).run P w=.ok (.enter f vs) w)
  (hC:∀(s cs:ByteArray)(w:World),s.size≤9223372036854775807→cs.size<4294967281→(∀(j:Nat) b,cs.data.toList[j]?=some b→b.toNat<128)→
   Calls P f #[.string s,.string cs] w fun e w'=>e=.returned (.string ⟨(Lib.trimS s.data.toList cs.data.toList).toArray⟩)∧Below w.heap.size w w')
  (s cs:aP)(h1:s.length≤9223372036854775807)(h2:cs.length<4294967281)(h3:∀b,b∈cs→b.toNat<128):aI P G f [.str s,.str cs] (.str (Lib.trimS s cs)):=by
 refine aI.below hE fun pl M w vs h hG hr hv=>?_
 obtain⟨a,b,rfl,hv1,hv2⟩:=Aq hv;cases hv1;cases hv2
 exact⟨.string ⟨⟨Lib.trimS s cs⟩⟩,.str _,hC ⟨⟨s⟩⟩ ⟨⟨cs⟩⟩ w h1 h2 fun j b hj=>h3 b (bb hj)⟩
end
end Go.Ev
namespace Go.Ev
open Go
structure PId where
 a:Int
 i:Int
 n:Int
 deriving Inhabited,DecidableEq
noncomputable def aK(p:PId):AV:=.agg [.int .i64 p.a,.int .i64 p.i,.int .i64 p.n]
theorem Io(p:PId):(aK p).top=0:=rfl
def bz(u:TUnit):PId:=⟨u.act,u.item,u.n⟩
def bh(p q:PId):Bool:=ab p.a q.a&&(ab p.i q.i&&ab p.n q.n)
theorem xr{p q:PId}(h:bh p q=true):p=q:=by
 unfold bh at h;rw[bU,bU]at h;obtain⟨a,b,c⟩:=p;obtain⟨d,e,g⟩:=q;grind[iY]
theorem mB(p:PId):bh p p=true:=by simp[bh,aR]
abbrev fc(p:PId)(u:TUnit):Bool:=bh (bz u) p
theorem IX:KeyOf PId true 3 [(0,1),(1,1),(2,1)] aK bh where
 eq a b:=by
  show wT [.int .i64 a.a,.int .i64 a.i,.int .i64 a.n] [.int .i64 b.a,.int .i64 b.i,.int .i64 b.n] [(0,1),(1,1),(2,1)]=_
  simp only[wT,jq,Rl,Ig,kx,bh];cases h1:ab a.a b.a<;>cases h2:ab a.i b.i<;>cases h3:ab a.n b.n<;>rfl
 t a b h:=xr h
 refl a:=mB a
 same a:=by simp[aK,lL,jy,ju,kx,aR]
 top a:=rfl
mutual
def nU:TUnit→Nat
 |⟨_,_,_,_,_,_,_,ks⟩=>1+dO ks
def dO:List TUnit→Nat
 |[]=>0
 |k::r=>nU k+dO r
end
mutual
def mF:TUnit→Nat
 |⟨_,_,_,_,_,_,_,ks⟩=>kj ks
def kj:List TUnit→Nat
 |[]=>0
 |k::r=>Nat.max (1+mF k) (kj r)
end
mutual
def bg:TUnit→List TUnit
 |⟨x1,x2,x3,x4,x5,x6,x7,ks⟩=>⟨x1,x2,x3,x4,x5,x6,x7,ks⟩::dw ks
def dw:List TUnit→List TUnit
 |[]=>[]
 |k::r=>bg k++dw r
end
mutual
def aA(p:PId):TUnit→List TUnit
 |⟨x1,x2,x3,x4,x5,x6,x7,ks⟩=>bif fc p ⟨x1,x2,x3,x4,x5,x6,x7,ks⟩then[⟨x1,x2,x3,x4,x5,x6,x7,ks⟩]else match cY p ks with
  |[]=>[]
  |y::t=>⟨x1,x2,x3,x4,x5,x6,x7,ks⟩::y::t
def cY(p:PId):List TUnit→List TUnit
 |[]=>[]
 |k::r=>match aA p k with
  |[]=>cY p r
  |y::t=>y::t
end
theorem iS(u:TUnit):nU u=1+dO u.kids:=by cases u;rw[nU];rfl
theorem lG:dO []=0:=by rw[dO]
theorem bc(k:TUnit)(r:List TUnit):dO (k::r)=nU k+dO r:=by rw[dO]
theorem Kk(u:TUnit):mF u=kj u.kids:=by cases u;rw[mF];rfl
theorem Cv:kj []=0:=by rw[kj]
theorem Is(k:TUnit)(r:List TUnit):kj (k::r)=Nat.max (1+mF k) (kj r):=by rw[kj]
theorem dJ(u:TUnit):bg u=u::dw u.kids:=by cases u;rw[bg];rfl
theorem fu:dw []=[]:=by rw[dw]
theorem bG(k:TUnit)(r:List TUnit):dw (k::r)=bg k++dw r:=by rw[dw]
def dZ(u:TUnit):List PId:=(bg u).map bz
def iK(l:List TUnit):List PId:=(dw l).map bz
theorem nZ(u:TUnit):dZ u=bz u::iK u.kids:=by unfold dZ iK;rw[dJ];rfl
theorem qM:iK []=[]:=by unfold iK;rw[fu];rfl
theorem fS(k:TUnit)(r:List TUnit):iK (k::r)=dZ k++iK r:=by grind[dZ,iK,bG]
theorem DW:∀{l:List TUnit}{k:TUnit},k∈l→nU k≤dO l
 |x::r,k,h=>by
  rw[bc];rcases fO.1 h with rfl|h
  ·omega
  ·have:=DW h;omega
theorem ib{u k:TUnit}(h:k∈u.kids):nU k<nU u:=by rw[iS u];have:=DW h;omega
theorem H0(u:TUnit):0<nU u:=by grind[iS]
theorem xf:∀(l:List TUnit),l.length≤dO l
 |[]=>by simp_all
 |k::r=>by
  rw[bc,cF];have:=xf r;grind[H0]
theorem bd(u:TUnit):u.kids.length<nU u:=by grind[iS,xf]
theorem Lg{l:List TUnit}(h:∀k,k∈l→(bg k).length=nU k):(dw l).length=dO l:=by
 induction l with
 |nil=>rw[fu,lG];rfl
 |cons k r ih=>grind[bG,bc]
theorem FW:∀(u:TUnit),(bg u).length=nU u:=TUnit.ind fun u ih=>by grind[dJ,iS,Lg]
theorem th(u:TUnit):(dZ u).length=nU u:=by grind[dZ,FW]
theorem Qm{l:List TUnit}{n:Nat}(h:∀k,k∈l→1+mF k≤n):kj l≤n:=by
 induction l with
 |nil=>grind[Cv]
 |cons k r ih=>grind[Is]
theorem Dp:∀(u:TUnit),mF u<nU u:=TUnit.ind fun u ih=>by
 have:kj u.kids≤dO u.kids:=Qm fun k hk=>by have:=ih k hk;have:=DW hk;omega
 grind[Kk,iS]
section
variable{p:PId}{u w:TUnit}{r:List TUnit}
theorem gJ(u:TUnit):aA p u=bif fc p u then[u]else match cY p u.kids with|[]=>[]|y::t=>u::y::t:=by cases u;rw[aA];rfl
theorem ke:cY p []=[]:=by rw[cY]
theorem oa(k:TUnit)(r:List TUnit):cY p (k::r)=match aA p k with|[]=>cY p r|y::t=>y::t:=by rw[cY]
def cX(p:PId)(u:TUnit):Bool:=ax (aA p u).isEmpty
theorem za(h:cX p u=false):aA p u=[]:=by grind[cX]
theorem vJ(h:cX p u=true):∃y t,aA p u=y::t:=by
 unfold cX at h;cases e:aA p u with
 |nil=>grind
 |cons x r=>simp_all
theorem kH(h:cX p u=true):aA p u≠[]:=by grind[vJ]
theorem qo(h:fc p u=true):aA p u=[u]:=by rw[gJ,h];rfl
theorem Da(h:fc p u=true):cX p u=true:=by unfold cX;rw[qo h];rfl
theorem iE(h:cX p w=false):cY p (w::r)=cY p r:=by rw[oa,za h]
theorem nF(h:cX p w=true):cY p (w::r)=aA p w:=by grind[vJ,oa]
theorem NH(h:fc p u=false)(h2:cY p u.kids=cY p []):aA p u=[]:=by rw[gJ,h,h2,ke];rfl
theorem F0(h:fc p u=false)(h2:cY p u.kids=cY p []):cX p u=false:=by unfold cX;rw[NH h h2];rfl
theorem I7(h:fc p u=false)(h2:cY p u.kids=cY p (w::r))(h3:cX p w=true):aA p u=u::aA p w:=by grind[gJ,nF,vJ]
theorem TV(h:fc p u=false)(h2:cY p u.kids=cY p (w::r))(h3:cX p w=true):cX p u=true:=by unfold cX;rw[I7 h h2 h3];rfl
end
theorem lD{p:PId}:∀(u:TUnit),(aA p u).length≤nU u:=TUnit.ind fun u ih=>by
 rw[gJ];cases fc p u with
 |true=>exact H0 u
 | false=>
  have key:∀(r:List TUnit),(∀k,k∈r→k∈u.kids)→(cY p r).length≤dO r:=by
   intro r;induction r with
   |nil=>grind[ke]
   |cons k r ihr=>grind[oa,bc]
  grind[iS]
def bv:TUnit:=⟨0,0,0,0,[],[],[],[]⟩
noncomputable def eJ(p:PId)(u:TUnit):TUnit:=bif cX p u then gD (aA p u) ((aA p u).length -1)else bv
theorem I9{p:PId}:∀(u:TUnit)(x:TUnit),x∈aA p u→x∈bg u:=TUnit.ind fun u ih=>by
 intro x hx;rw[gJ]at hx;rw[dJ];cases h:fc p u with
 |true=>simp_all
 | false=>
  rw[h]at hx;simp only[cond_false]at hx;have key:∀(r:List TUnit),(∀k,k∈r→k∈u.kids)→∀x,x∈cY p r→x∈dw r:=by
   intro r;induction r with
   |nil=>grind[ke]
   |cons k r ihr=>grind[oa,bG]
  grind
noncomputable def pv(p:Int×aP):AV:=.agg [.int .i64 p.1,.str p.2]
def mC(a b:Int×aP):Bool:=ab a.1 b.1&&dR a.2 b.2
theorem zA:∀(s:aP),dR s s=true
 |[]=>rfl
 |c::r=>by simp only[dR,zA r,Bool.and_true];simp_all
theorem Qb:∀{a b:aP},dR a b=true→a=b
 |[],[],_=>rfl
 |c::r,d::q,h=>by
  simp only[dR,bU]at h;rw[Qb h.2,UInt8.toNat_inj.1 (pU h.1)]
theorem J3:KeyOf (Int×aP) true 2 [(0,1),(1,2)] pv mC where
 eq a b:=by
  show wT [.int .i64 a.1,.str a.2] [.int .i64 b.1,.str b.2] [(0,1),(1,2)]=_
  simp only[wT,jq,Rl,Ig,kx,mC];cases h1:ab a.1 b.1<;>cases h2:dR a.2 b.2<;>rfl
 t a b h:=by
  simp only[mC,bU]at h;grind[iY,Qb]
 refl a:=by simp[mC,aR,zA]
 same a:=by simp[pv,lL,jy,ju,kx,aR,zA]
 top a:=rfl
noncomputable def dX(b:Bool):AV:=.bool b
theorem zF(b:Bool):(dX b).top=0:=rfl
def Nh{K:Type}(keq:K→K→Bool)(k:K)(l:List (K×Bool)):Bool:=(iq keq k l).getD false
section
variable{K:Type}{ag:Bool}{sz:Nat}{lv:List (Nat×Nat)}{kenc:K→AV}{keq:K→K→Bool}
theorem Fh(hk:KeyOf K ag sz lv kenc keq)(m:List (K×Bool))(k:K):ed (some (.bool false)) false (bq ag sz lv (kenc k) (bF kenc dX m 0) 0)=some (.bool (Nh keq k m)):=by
 rw[sK hk];unfold Nh;cases iq keq k m with
 |none=>rfl
 |some v=>rfl
theorem JQ(hk:KeyOf K ag sz lv kenc keq)(m:List (K×Bool))(k:K):pE (bF kenc dX m 0) m.length (kenc k) (.bool true) (bq ag sz lv (kenc k) (bF kenc dX m 0) 0)=some (bF kenc dX (dD keq k true m) 0,(dD keq k true m).length):=ue (f:=dX) hk k true m
end
def ov(l:List PWord):Bool:=ax (ap 256 (.ofNat l.length))&&pO (l.map fun w=>w.text)
def mn(pk:Int):List TUnit→List ((Int×aP)×Bool)→Bool
 |[],_=>true
 |k::r,m=>i9 pk k.kind&&(ax (Nh mC (k.kind,k.label) m)&&mn pk r (dD mC (k.kind,k.label) true m))
def ll(u:TUnit):Bool:=(bif ab u.kind 0 then dR u.label []&&ax (ap 0 (.ofNat (u.head.length+u.words.length)))else ax (dR (cN u.kind) [])&&(j5 u.label&&(ov u.head&&ov u.words)))&&(mn u.kind u.kids []&&ax (ap 64 (.ofNat u.kids.length)))
def vc(q:TUnit→Bool)(u:TUnit):Bool:=(bg u).all q
theorem xB(q:TUnit→Bool)(u:TUnit):vc q u=(q u&&(dw u.kids).all q):=by grind[vc,dJ]
theorem NY(q:TUnit→Bool):(dw []).all q=true:=by rw[fu];rfl
theorem Aw(q:TUnit→Bool)(k:TUnit)(r:List TUnit):(dw (k::r)).all q=(vc q k&&(dw r).all q):=by rw[bG,List.all_append];rfl
def Bc(l:List PId)(m:List (PId×Bool)):List (PId×Bool):=l.foldl (fun m p=>dD bh p true m) m
def bL:PId:=⟨0,0,0⟩
def PD(u:TUnit):Bool:=(Nh bh bL (Bc (dZ u) [])&&ab (.ofNat (Bc (dZ u) []).length) 1)||(ab (.ofNat (Bc (dZ u) []).length) (.ofNat (dZ u).length)&&(ab u.kind 0==fc bL u))
def kf(u:TUnit):Bool:=vc ll u&&(ax (ap 8 (.ofNat (mF u)))&&(ax (ap 1024 (.ofNat (nU u)))&&PD u))
theorem bC{u k:TUnit}(h:k∈u.kids){x:TUnit}(hx:x∈bg k):x∈bg u:=by
 rw[dJ];refine fU _ ?_;generalize u.kids=l at h;induction l with
 |nil=>grind
 |cons y r ih=>grind[bG]
theorem dY(u:TUnit):u∈bg u:=by grind[dJ]
theorem J2{u k:TUnit}(h:k∈u.kids):k∈bg u:=bC h (dY k)
end Go.Ev
namespace Go.Ev
open Go
def c9{α:Type}(q:α→α→Bool):List α→List α→Bool
 |[],[]=>true
 |x::l,y::m=>q x y&&c9 q l m
 |_,_=>false
theorem oZ{α:Type}{q:α→α→Bool}:∀{l m:List α},l.length≠m.length→c9 q l m=false
 |[],[],h=>absurd rfl h
 |[],y::m,_=>rfl
 |x::l,[],_=>rfl
 |x::l,y::m,h=>by
  unfold c9;rw[oZ (l:=l) (m:=m) (fun e=>h (by simp[e]))];exact sr _
section
variable{α:Type}[Inhabited α]{q:α→α→Bool}{l m x r:List α}{w:α}{j:Nat}
theorem xt{m:List α}{j:Nat}(h:j<m.length):m.drop j=gD m j::m.drop (j+1):=by grind[List.drop_eq_getElem_cons,gD]
theorem kI(h1:l.drop j=x)(h2:x=w::r)(hl:l.length=m.length)(h3:c9 q l m=c9 q (w::r) (m.drop (l.length-(w::r).length))):c9 q l m=(q w (gD m j)&&c9 q r (m.drop (l.length-r.length))):=by
 have e:=congrArg List.length (h1.trans h2);simp only[xF,cF]at e;rw[h3,(oW h1 h2).1,(oW h1 h2).2,xt (by omega),c9]
omit [Inhabited α]in
theorem qb(hl:l.length=m.length)(h3:c9 q l m=c9 q [] (m.drop (l.length-([]:List α).length))):c9 q l m=true:=by rw[h3,gc,Nat.sub_zero,hl,List.drop_length];rfl
end
def Nl(a b:PWord):Bool:=dR a.text b.text&&(ab a.act b.act&&(ab a.item b.item&&ab a.at_ b.at_))
mutual
def MD:TUnit→TUnit→Bool
 |⟨a,i,n,k,l,h,w,ks⟩,v=>bh ⟨a,i,n⟩ (bz v)&&(ab k v.kind&&(dR l v.label&&(c9 Nl h v.head&&(c9 Nl w v.words&&MC ks v.kids))))
def MC:List TUnit→List TUnit→Bool
 |[],[]=>true
 |k::r,[]=>false
 |k::r,x::s=>MD k x&&MC r s
 |[],x::s=>false
end
theorem V9(u v:TUnit):MD u v=(bh (bz u) (bz v)&&(ab u.kind v.kind&&(dR u.label v.label&&(c9 Nl u.head v.head&&(c9 Nl u.words v.words&&c9 MD u.kids v.kids))))):=by
 have key:∀(l m:List TUnit),MC l m=c9 MD l m:=by
  intro l;induction l with
  |nil=>intro m;cases m<;>(rw[MC];rfl)
  |cons x l ih=>intro m;cases m with|nil=>rw[MC];rfl|cons y m=>rw[MC,ih];rfl
 cases u
 rw[MD,key];rfl
end Go.Ev
namespace Go.Ev
open Go
def HY(u v:AV):Prop:=(Sc v→Sc u)∧Les u.cells v.cells
theorem HY.refl(v:AV):HY v v:=⟨id,Les.refl _⟩
theorem HY.one{u v:AV}(hu:u.cells=[u])(hv:v.cells=[v])(hs:cA u=true)(h:Le u v):HY u v:=⟨fun _ y hy=>by simp_all,by rw[hu,hv];exact .cons h .nil⟩
inductive LesC:List AV→List AV→Prop
 |nil:LesC [] []
 |cons {u v:AV} {us vs:List AV} (h:HY u v) (k:LesC us vs):LesC (u::us) (v::vs)
theorem LesC.len{us vs:List AV}(h:LesC us vs):us.length=vs.length:=by
 induction h with
 |nil=>rfl
 |cons _ _ ih=>simp_all
theorem LesC.at_{us vs:List AV}(h:LesC us vs):∀(j:Nat)(u:AV),us[j]?=some u→∃v,vs[j]?=some v∧HY u v:=by
 induction h with
 |nil=>simp_all
 |cons h k ih=>grind
theorem EQ{xs ys:List AV}{t:Bool}(h:LesC xs ys):Le (.ps xs false) (.ps ys t):=fun pl M v hv=>by
 cases hv with
 | @ps _ _ a cap sz c hl ht hm hs hc=>
  rw[←h.len];refine .ps (sz:=sz) (c:=c) (by rw[h.len];omega) (fun h=>by grind) (fun hx=>?_) (fun x hx=>?_) fun i x j y hx hy=>?_
  ·have:ys≠[]:=fun e=>hx (rx (by rw[h.len,e];rfl))
   rw[h.len];simp_all
  ·obtain⟨i,hi⟩:=A8 hx;obtain⟨y,h1,h2,h3⟩:=h.at_ i x hi;have:=hs y (bb h1);exact⟨h3.len.trans this.1,h2 this.2⟩
  ·obtain⟨z,h1,_,h3⟩:=h.at_ i x hx;obtain⟨d,h4,h5⟩:=h3.at_ j y hy;exact h5 _ _ _ (hc i z j d h1 h4)
theorem Wr{xs ys:List AV}{t:Bool}(h:LesC xs ys)(h0:aq xs=0):Le (.ls xs) (.ps ys t):=fun pl M v hv=>.lsp (EQ h pl M v hv) h0
theorem Ws{xs ys:List AV}(h:LesC xs ys)(h0:aq xs=0):Le (.ls xs) (.ls ys):=fun pl M v hv=>by
 cases hv with
 |lsn=>cases h;exact .lsn
 |lsp hv _=>exact .lsp (EQ h pl M v hv) h0
theorem Le.pls{x:AV}{xs ys:List AV}(h:LesC (x::xs) ys):Le (.ps (x::xs) false) (.ls ys):=fun pl M v hv=>by
 cases hv with
 |lsn=>cases h
 |lsp hv _=>exact EQ h pl M v hv
mutual
def Ac:AV→AV→Bool
 | .ls xs,.nils=>xs.isEmpty
 | .ls xs,.ps ys _=>kY xs ys&&Nat.beq (aq xs) 0
 | .ls xs,.ls ys=>kY xs ys&&Nat.beq (aq xs) 0
 | .ps (x::xs) false,.ls ys=>kY (x::xs) ys
 | .ps xs false,.ps ys _=>kY xs ys
 | .agg us,.agg vs=>kY us vs&&us.all cA
 |u,v=>AV.same u v
def kY:List AV→List AV→Bool
 |[],[]=>true
 |a::us,b::vs=>Ac a b&&kY us vs
 |_,_=>false
end
theorem HY.same{u v:AV}(h:AV.same u v=true):Le u v∧HY u v:=by grind[AV.same_eq,Le.refl,HY.refl]
mutual
theorem ve:∀(u v:AV),Ac u v=true→Le u v∧HY u v:=fun u v h=>by
 unfold Ac at h;split at h
 ·rename_i xs;have e:xs=[]:=by simp_all
  subst e;exact⟨Le.nils,HY.one rfl rfl rfl Le.nils⟩
 ·rename_i xs ys t;have h:=mK.1 h;have k:=Wr (t:=t) (jf xs ys h.1).2 (pU h.2);exact⟨k,HY.one rfl rfl rfl k⟩
 ·rename_i xs ys;have h:=mK.1 h;have k:=Ws (jf xs ys h.1).2 (pU h.2);exact⟨k,HY.one rfl rfl rfl k⟩
 ·rename_i x xs ys;have k:=Le.pls (jf (x::xs) ys h).2;exact⟨k,HY.one rfl rfl rfl k⟩
 ·rename_i xs ys t;have k:=EQ (t:=t) (jf xs ys h).2;exact⟨k,HY.one rfl rfl rfl k⟩
 ·rename_i us vs;have h:=mK.1 h;have k:=jf us vs h.1;exact⟨aL k.1 h.2,fun _ y hy=>lp.1 h.2 y hy,k.1⟩
 ·exact HY.same h
theorem jf:∀(us vs:List AV),kY us vs=true→Les us vs∧LesC us vs:=fun us vs h=>by
 unfold kY at h;split at h
 ·exact⟨.nil,.nil⟩
 ·rename_i a us b vs;have h:=mK.1 h;have h1:=ve a b h.1;have h2:=jf us vs h.2;exact⟨.cons h1.1 h2.1,.cons h1.2 h2.2⟩
 ·grind
end
section
variable{P:Program}{G:ee}{f:FuncId}{a b:List AV}{u v:AV}
theorem aI.args(h:aI P G f a v)(hl:Les a b):aI P G f b v:=fun hp pl M w vs hg hr hv=>h hp pl M w vs hg hr (hv.le hl)
theorem aI.lessB(h:aI P G f a v)(hl:Ac u v=true):aI P G f a u:=h.less (ve _ _ hl).1
theorem Vj(a b:Nat):BF (.ofNat a) (.ofNat b)=.ofNat (Nat.max a b):=by
 unfold BF;cases h:ap (.ofNat a) (.ofNat b)with
 |true=>
  have h:=ar h;grind
 |false=>
  have h:=aM h;simp_all
theorem pw{xs ys:List AV}{i t:Nat}{r:List (Nat×Nat)}{x y:AV}{e c:Bool}(hx:jq xs i=some x)(hy:jq ys i=some y)(h:Ig t x y=some e)(k:wT xs ys r=some c):wT xs ys ((i,t)::r)=some (e&&c):=by
 simp only[wT,hx,hy,Rl,h];cases e with
 |true=>exact k
 |false=>rfl
theorem CY{xs ys:List AV}{i t:Nat}{r:List (Nat×Nat)}{x y:AV}{e:Bool}(hx:jq xs i=some x)(hy:jq ys i=some y)(h:Ig t x y=some e)(k:wT xs ys r=some true):wT xs ys ((i,t)::r)=some e:=by
 simp only[wT,hx,hy,Rl,h];cases e with
 |true=>exact k
 |false=>rfl
theorem DR{d:Option TypeDesc}{n:Nat}{l:List (Nat×Nat)}{xs ys:List AV}{c:Bool}{H:AHeap}(hn:(Nat.beq xs.length n&&Nat.beq ys.length n)=true)(hl:wT xs ys l=some c):
  bj H (Ru (pf .eql d (some true) (some n) (some l)) (some (.agg xs)) (some (.agg ys)))=some (.val (.bool c) H):=by
 grind[Ru,pf,WZ,oD,bj]
theorem DP{d:Option TypeDesc}{n:Nat}{l:List (Nat×Nat)}{xs ys:List AV}{c:Bool}{H:AHeap}(hn:(Nat.beq xs.length n&&Nat.beq ys.length n)=true)(hl:wT xs ys l=some c):
  bj H (Ru (pf .neq d (some true) (some n) (some l)) (some (.agg xs)) (some (.agg ys)))=some (.val (.bool (!c)) H):=by
 grind[Ru,pf,WZ,oD,bj]
def qq:List (FuncId×List AV×AV)→Yw
 |[],_,_,_=>none
 |x::r,g,b,h=>match Nat.beq g x.1 with
  |true=>(match kY x.2.1 b with|true=>some (x.2.2,h)|false=>qq r g b h)
  |false=>qq r g b h
theorem zk:∀{L:List (FuncId×List AV×AV)}{g:FuncId}{h h1:AHeap}{v1:AV},qq L g b h=some (v1,h1)→∃x,x∈L∧g=x.1∧kY x.2.1 b=true∧v1=x.2.2∧h1=h
 |[],_,_,_,_,e=>by grind[qq]
 | x::r,g,h,h1,v1,e=>by
  unfold qq at e;have next:qq r g b h=some (v1,h1)→∃y,y∈x::r∧g=y.1∧kY y.2.1 b=true∧v1=y.2.2∧h1=h:=fun e=>
   let⟨y,k,q⟩:=zk e
   ⟨y,fU _ k,q⟩
  grind[Nat.eq_of_beq_eq_true]
theorem tu{C:Cfg}{L:List (FuncId×List AV×AV)}(hC:C.hook=qq L)(hL:∀x,x∈L→aI C.P C.G x.1 x.2.1 x.2.2):II C:=fun g b hp v1 h1 e pl M w vs hg hr hv=>by
 rw[hC]at e;obtain⟨x,hx,rfl,hl,rfl,rfl⟩:=zk e;rcases hL x hx h1 pl M w vs hg hr (hv.le (jf _ _ hl).1)with⟨k1,k2⟩|⟨cv,w',v2,h2,k1,⟨rfl,rfl⟩,k3⟩
 ·refine .inl ⟨k1,fun cs=>?_⟩;obtain⟨en,w',fr,⟨cv,v2,h2,e1,⟨rfl,rfl⟩,k3⟩,r⟩:=k2 cs;grind
 ·exact .inr ⟨cv,w',k1,k3⟩
def W5(v:AV):Option (AV×AHeap)→Bool
 |some (u,_)=>Ac v u&&Nat.beq u.top 0
 |none=>false
theorem aI.closed{C:Cfg}{k:Nat}(hG:iD C.G)(ev:bO C.P C.G (gk C k))(ht:aq a=0)(h:W5 v (gk C k f a AHeap.none)=true):aI C.P C.G f a v:=by
 cases hx:gk C k f a AHeap.none with
 |none=>rw[hx]at h;cases h
 |some r=>
  obtain⟨u,h1⟩:=r;rw[hx]at h;have h:=mK.1 h;exact(oz hG ht (pU h.2) ((aE.of ev hx).mono fun v1 _ e=>e.1)).lessB h.1
end
end Go.Ev
namespace Go.Ev
open Go
theorem aI.ls0{P:Program}{G:ee}{f:FuncId}{r:List AV}{v:AV}(h1:aI P G f (.nils::r) v)(h2:aI P G f (.ps [] false::r) v):aI P G f (.ls []::r) v:=fun h=>EW (fun _ _ _ hv=>VRels.first hv fun _ hv=>hv.ls0) (h1 h) (h2 h)
theorem QJ{p:PId}{u:TUnit}(h:cX p u=true):eJ p u∈aA p u:=by
 unfold eJ;rw[h];have:=pt.2 (kH h);grind[jZ]
theorem Rj:∀(u:TUnit),mM u=(bg u).flatMap m0:=by
 refine TUnit.ind fun u ih=>?_
 rw[KR,dJ,Ez];congr 1;have key:∀(l:List TUnit),(∀k,k∈l→k∈u.kids)→kw l=(dw l).flatMap m0:=by
  intro l;induction l with
  |nil=>intro _;rw[Cr,fu];rfl
  |cons k r ihr=>grind[sg,bG]
 simp_all
theorem NI{p:PId}:∀(u:TUnit),cX p u=true→bz (eJ p u)=p:=by
 refine TUnit.ind fun u ih h=>?_
 unfold eJ;rw[h];simp only[cond_true];cases hh:fc p u with
 |true=>rw[qo hh];exact xr hh
 | false=>
  have key:∀(r:List TUnit),(∀k,k∈r→k∈u.kids)→cY p r≠[]→bz (gD (cY p r) ((cY p r).length -1))=p:=by
   intro r;induction r with
   |nil=>grind[ke]
   |cons k r ihr=>grind[nF,eJ,iE]
  have k2:=key u.kids fun _ h=>h
  obtain⟨y,t,e⟩:=vJ h;rw[gJ,hh]at e ⊢;grind[gD]
theorem KZ{p:PId}:∀(u:TUnit),(∃x,x∈bg u∧bz x=p)→cX p u=true:=by
 refine TUnit.ind fun u ih ⟨x,hx,hp⟩=>?_
 cases hh:fc p u with
 |true=>grind[Da]
 | false=>
  rw[dJ]at hx;rcases fO.1 hx with rfl|hx
  ·simp_all[fc,mB]
  ·have key:∀(l:List TUnit),(∀k,k∈l→k∈u.kids)→x∈dw l→cY p l≠[]:=by
    intro l;induction l with
    |nil=>grind[fu]
    |cons k r ihr=>grind[bG,cX,nF,iE]
   grind[cX,gJ]
theorem BD{α β:Type}{f:α→β}:∀{l:List α},(l.map f).Nodup→∀{x y:α},x∈l→y∈l→f x=f y→x=y
 | a::l,h,x,y,hx,hy,e=>by
  rw[ej,List.nodup_cons]at h;rcases fO.1 hx with h1|h1
  ·grind
  ·rcases fO.1 hy with h2|h2
   ·simp_all
   ·exact BD h.2 h1 h2 e
theorem Cj{K V:Type}{kenc:K→AV}{f:V→AV}:∀(l:List (K×V))(i:Nat),(bF kenc f l i).length=l.length
 |[],_=>rfl
 |(k,v)::r,i=>by rw[bF,cF,Cj r,cF]
theorem Lx(m:List (PId×Bool)):Bc [] m=m:=rfl
theorem Qa{n:Nat}(h:0<n):ab (Int.ofNat n) 0=false:=by grind[o5]
def CW(p:PId):TUnit→Option TUnit:=fun u=>(bg u).find? (fc p)
theorem Rp{p:PId}:∀(u:TUnit),(cX p u=true→CW p u=some (eJ p u))∧(cX p u=false→CW p u=none):=by
 refine TUnit.ind fun u ih=>?_
 unfold CW;rw[dJ];cases hh:fc p u with
 |true=>
  rw[List.find?_cons_of_pos (by omega)];refine⟨fun h=>?_,fun h=>by grind[Da]⟩;unfold eJ;rw[h,qo hh];rfl
 | false=>
  rw[List.find?_cons_of_neg (by simp_all)];have key:∀(r:List TUnit),(∀k,k∈r→k∈u.kids)→(cY p r≠[]→(dw r).find? (fc p)=some (gD (cY p r) ((cY p r).length -1)))∧(cY p r=[]→(dw r).find? (fc p)=none):=by
   intro r;induction r with
   |nil=>grind[ke,fu]
   |cons k r ihr=>
    intro hm;have ik:=ih k (hm k (fY ..));have ir:=ihr fun z hz=>hm z (fU _ hz)
    rw[bG,List.find?_append];cases hk:cX p k with
    |true=>grind[CW,nF,kH,eJ]
    |false=>grind[CW,iE]
  have k2:=key u.kids fun _ h=>h
  refine⟨fun h=>?_,fun h=>?_⟩
  ·obtain⟨y,t,e⟩:=vJ h;unfold eJ;rw[h,gJ,hh];rw[gJ,hh]at e;grind[gD]
  ·have e:=za h;grind[gJ]
theorem gq(p:PId)(u:TUnit):fc p u=true↔bz u=p:=⟨xr,fun h=>by simp_all[fc,mB]⟩
theorem HE{y x:TUnit}:∀(u:TUnit),y∈bg u→x∈bg y→x∈bg u:=by
 refine TUnit.ind fun u ih h hx=>?_
 rw[dJ]at h ⊢;rcases fO.1 h with rfl|h
 ·grind[dJ]
 ·refine fU _ ?_;have key:∀(l:List TUnit),(∀k,k∈l→k∈u.kids)→y∈dw l→x∈dw l:=by
   intro l;induction l with
   |nil=>grind[fu]
   |cons k r ihr=>grind[bG]
  simp_all
theorem iH{y x u:TUnit}(h:y∈bg u)(hx:x∈bg y):x∈bg u:=HE u h hx
theorem Og{x:TUnit}:∀(u:TUnit),x∈bg u→nU x≤nU u:=by
 refine TUnit.ind fun u ih h=>?_
 rw[dJ]at h;rcases fO.1 h with rfl|h
 ·omega
 ·have key:∀(l:List TUnit),(∀k,k∈l→k∈u.kids)→x∈dw l→nU x<nU u:=by
   intro l;induction l with
   |nil=>grind[fu]
   |cons k r ihr=>grind[bG,Nat.lt_of_le_of_lt,ib]
  grind
theorem dE{x u:TUnit}(h:x∈bg u):nU x≤nU u:=Og u h
section
variable{p:PId}{u w:TUnit}{r:List TUnit}
end
end Go.Ev
namespace Go.Ev
open Go
def kQ(a b:PStep):Bool:=ab a.kind b.kind&&dR a.label b.label
mutual
def Di:PItem→PItem→Bool
 |⟨k,a,t,w,n,u,o,ne,l,f,s,ac,im,d,e,bs⟩,v=>
  (ab k v.kind&&(ab w v.where_&&(ab n v.nth_&&(ab ac v.act&&(ab im v.item&&ab d v.day)))))
  &&((dR l v.label&&(dR f v.for_&&(dR e v.event&&(ab s.kind v.start.kind&&(ab s.day v.start.day&&dR s.event v.start.event)))))
  &&((c9 kQ a v.at_&&(c9 kQ t v.to&&(c9 dR o v.old&&c9 dR ne v.new)))
  &&(MD u v.unit&&CU bs v.by_)))
def CU:List PItem→List PItem→Bool
 |[],[]=>true
 |k::r,[]=>false
 |k::r,x::s=>Di k x&&CU r s
 |[],x::s=>false
end
theorem Qy:∀(l m:List PItem),CU l m=c9 Di l m:=by
 intro l;induction l with
 |nil=>intro m;cases m<;>(rw[CU];rfl)
 |cons x l ih=>intro m;cases m with|nil=>rw[CU];rfl|cons y m=>rw[CU,ih];rfl
theorem Tl(u v:PItem):Di u v=((ab u.kind v.kind&&(ab u.where_ v.where_&&(ab u.nth_ v.nth_&&(ab u.act v.act&&(ab u.item v.item&&ab u.day v.day)))))
  &&((dR u.label v.label&&(dR u.for_ v.for_&&(dR u.event v.event&&(ab u.start.kind v.start.kind&&(ab u.start.day v.start.day&&dR u.start.event v.start.event)))))
  &&((c9 kQ u.at_ v.at_&&(c9 kQ u.to v.to&&(c9 dR u.old v.old&&c9 dR u.new v.new)))
  &&(MD u.unit v.unit&&c9 Di u.by_ v.by_)))):=by
 cases u
 rw[Di,Qy];rfl
noncomputable def DX(s:aP):Bool:=ax (ap (.ofNat s.length) 1)&&(ax (ap 16 (.ofNat s.length))&&(ax (ap (.ofNat (gD s 0).toNat) 97)&&(ax (ap 122 (.ofNat (gD s 0).toNat))&&dR (Lib.trimS s [97,98,99,100,101,102,103,104,105,106,107,108,109,110,111,112,113,114,115,116,117,118,119,120,121,122,48,49,50,51,52,53,54,55,56,57,45]) [])))
def rW(n:Bool)(s:PStart):Bool:=bif ab s.kind 0||ab s.kind 2 then ab s.day 0&&dR s.event []else bif ab s.kind 1 then(ax (ap s.day 0)&&ax (ap 1048576 s.day))&&dR s.event []else bif ab s.kind 3 then ab s.day 0&&n else false
end Go.Ev
namespace Go.Ev
open Go
def bi(s:PStep)(u:TUnit):Bool:=ab u.kind s.kind&&dR u.label s.label
def gY:List PStep→List TUnit→List TUnit
 |[],l=>l
 |s::r,l=>gY r (l.flatMap fun x=>x.kids.filter (bi s))
def dL(u:TUnit)(p:List PStep):List TUnit:=bif ky p then(match p with
 |[]=>[u]
 |s::r=>gY r (bif mN s then[u]else(bg u).filter (bi s)))else[]
noncomputable def au(u:TUnit)(p:List PStep):PId×Int:=match dL u p with
 |[]=>(bL,7)
 |[x]=>(bz x,0)
 |_=>(bL,8)
def gM(p:PId)(u:TUnit):Bool:=ax (ap (.ofNat (aA p u).length) 2)
noncomputable def Hb(p:PId)(u:TUnit):TUnit:=gD (aA p u) ((aA p u).length -2)
noncomputable def rT(p:PId)(u:TUnit):PId:=bif gM p u then bz (Hb p u)else bL
noncomputable def pS(p:PId)(u:TUnit):Int:=bif gM p u then co (cX p) (Hb p u).kids 0 else -1
def pg(p:PId)(u:TUnit):List PId:=(((aA p u).take ((aA p u).length -1)).map bz).reverse
structure PSpot where
 id:PId
 at_:Int
 deriving Inhabited
noncomputable def e9(s:PSpot):AV:=.agg [.int .i64 s.id.a,.int .i64 s.id.i,.int .i64 s.id.n,.int .i64 s.at_]
def dt:PSpot:=⟨bL,0⟩
noncomputable def nK(u:TUnit)(p:PId)(n:Int):PSpot×Int:=bif gM p u then(⟨rT p u,pS p u+n⟩,0)else(dt,9)
noncomputable def dK(w:Int)(u:TUnit)(p:PId):PSpot×Int:=bif ab w 0 then(⟨p,0⟩,0)else bif ab w 1 then(⟨p,.ofNat (eJ p u).kids.length⟩,0)else bif ab w 2 then nK u p 1 else nK u p 0
def iw(n:Int):Bool:=ax (ap n 0)&&ax (ap 3 n)
def ca(act item:Int):List aP→Nat→List PWord
 |[],_=>[]
 |s::r,n=>⟨s,act,item,.ofNat n⟩::ca act item r (n+1)
def bR(l:List PWord):List aP:=l.map fun w=>w.text
theorem fC(a i:Int):∀(l:List aP)(n:Nat),(ca a i l n).length=l.length
 |[],_=>rfl
 |s::r,n=>by rw[ca,cF,fC a i r,cF]
mutual
def cG(a i:Int):TUnit→Nat→Nat→TUnit
 |⟨_,_,_,k,l,h,ws,ks⟩,n,w=>⟨a,i,.ofNat (n+1),k,l,ca a i (bR h) w,ca a i (bR ws) (w+h.length),eR a i ks (n+1) (w+h.length+ws.length)⟩
def eR(a i:Int):List TUnit→Nat→Nat→List TUnit
 |[],_,_=>[]
 |k::r,n,w=>cG a i k n w::eR a i r (n+nU k) (w+(mM k).length)
end
theorem Ba(a i:Int)(u:TUnit)(n w:Nat):cG a i u n w=⟨a,i,.ofNat (n+1),u.kind,u.label,ca a i (bR u.head) w,ca a i (bR u.words) (w+u.head.length),eR a i u.kids (n+1) (w+u.head.length+u.words.length)⟩:=by cases u;rw[cG];rfl
theorem EB(a i:Int)(n w:Nat):eR a i [] n w=[]:=by rw[eR]
theorem CG(a i:Int)(k:TUnit)(r:List TUnit)(n w:Nat):eR a i (k::r) n w=cG a i k n w::eR a i r (n+nU k) (w+(mM k).length):=by rw[eR]
def uO(part:List aP):Nat→List aP→Nat→List Nat
 |0,_,_=>[]
 |f+1,l,i=>bif Nat.ble (i+part.length) l.length then(bif c9 dR ((l.drop i).take part.length) part then i::uO part f l (i+part.length)else uO part f l (i+1))else[]
def tV(l part:List aP):List Nat:=bif part.isEmpty then[]else uO part (l.length+1) l 0
end Go.Ev
namespace Go.Ev
open Go
def oI(w:PWord):Bool:=ax (ab w.act 0&&(ab w.item 0&&ab w.at_ 0))
def Cm(x:TUnit):Bool:=fc bL x&&(ax (x.head.any oI)&&ax (x.words.any oI))
def G1(u:TUnit):Bool:=kf u&&vc Cm u
def gr(w:PWord):PWord:=⟨w.text,0,0,0⟩
mutual
def ct:TUnit→TUnit
 |⟨_,_,_,k,l,h,w,ks⟩=>⟨0,0,0,k,l,h.map gr,w.map gr,sH ks⟩
def sH:List TUnit→List TUnit
 |[]=>[]
 |k::r=>ct k::sH r
end
theorem yJ:∀(l:List TUnit),sH l=l.map ct
 |[]=>by rw[sH];rfl
 |k::r=>by rw[sH,yJ r];rfl
theorem lT(u:TUnit):ct u=⟨0,0,0,u.kind,u.label,u.head.map gr,u.words.map gr,u.kids.map ct⟩:=by cases u;rw[ct,yJ];rfl
theorem PG{p:PId}{u:TUnit}(h:cX p u=false):gM p u=false:=by unfold gM;rw[za h];rfl
theorem VZ{p:PId}{u:TUnit}(h:gM p u=false):rT p u=bL:=by unfold rT;simp_all
theorem Ot{p:PId}{u:TUnit}(h:gM p u=false):pS p u= -1:=by unfold pS;simp_all
theorem HI{p:PId}{u:TUnit}(h:gM p u=true):rT p u=bz (Hb p u):=by unfold rT;simp_all
theorem HL{p:PId}{u:TUnit}(h:gM p u=true):pS p u=co (cX p) (Hb p u).kids 0:=by unfold pS;simp_all
def oK(p:PId)(u:TUnit)(k:Nat):List PId:=((((aA p u).take ((aA p u).length -1)).drop k).map bz).reverse
theorem DO(p:PId)(u:TUnit):oK p u 0=pg p u:=rfl
theorem Cp(p:PId)(u:TUnit):oK p u ((aA p u).length -1)=[]:=by
 unfold oK;simp_all
theorem Aj(p:PId)(u:TUnit){k:Nat}(h:k+1<(aA p u).length):oK p u k=oK p u (k+1)++[bz (gD (aA p u) k)]:=by
 unfold oK;have h1:k<((aA p u).take ((aA p u).length -1)).length:=by grind
 rw[AR h1,ej,List.reverse_cons];grind[gD]
theorem Co(p:PId)(u:TUnit)(k:Nat):(oK p u k).length≤(aA p u).length:=by grind[oK]
def kO(s:PStep)(u:TUnit):List TUnit:=(bg u).filter (bi s)
def dQ(s:PStep)(l:List TUnit):List TUnit:=(dw l).filter (bi s)
theorem yo(s:PStep)(u:TUnit):kO s u=(bif bi s u then[u]else[])++dQ s u.kids:=by
 unfold kO dQ;rw[dJ,List.filter_cons];grind
theorem mf(s:PStep):dQ s []=[]:=by unfold dQ;rw[fu];rfl
theorem ge(s:PStep)(k:TUnit)(r:List TUnit):dQ s (k::r)=kO s k++dQ s r:=by grind[kO,dQ,bG]
theorem mQ(s:PStep)(u:TUnit):(kO s u).length≤nU u:=by grind[kO,FW]
theorem sQ:∀(l m:List TUnit),dO (l++m)=dO l+dO m
 |[],m=>by rw[lG,vp,gQ]
 |x::r,m=>by rw[xM,bc,bc,sQ r m,Nat.add_assoc]
theorem yN(q:TUnit→Bool):∀(l:List TUnit),dO (l.filter q)≤dO l
 |[]=>by simp_all
 |x::r=>by
  rw[List.filter_cons,bc];have:=yN q r;cases q x with
  |true=>rw[if_pos rfl,bc];omega
  |false=>grind
theorem yM(q:TUnit→Bool):∀(l:List TUnit),dO (l.flatMap fun x=>x.kids.filter q)≤dO l
 |[]=>by simp_all
 |x::r=>by
  rw[Ez,sQ,bc];have:=yM q r;grind[yN,iS]
theorem JE{n:Nat}:∀(l:List TUnit),(∀x,x∈l→nU x≤n)→dO l≤n*l.length
 |[],_=>by simp_all[lG]
 |x::r,h=>by
  rw[bc,cF,Nat.mul_add,Nat.mul_one];have:=h x (fY ..);have:=JE r fun y hy=>h y (fU _ hy)
  omega
theorem Fy(s:PStep)(u:TUnit)(hp:∀x,x∈bg u→nU x≤nU u):dO (kO s u)≤nU u*nU u:=by
 have h1:=JE (n:=nU u) (kO s u) fun x hx=>hp x (xE.1 hx).1
 exact bN h1 (Nat.mul_le_mul_left _ (mQ s u))
theorem Hg(l:List TUnit):gY [] l=l:=rfl
theorem Ij{u:TUnit}{p:List PStep}(h:ky p=false):dL u p=[]:=by unfold dL;simp_all
theorem F8{u:TUnit}(h:ky []=true):dL u []=[u]:=by unfold dL;simp_all
theorem F9{u:TUnit}{s:PStep}{r:List PStep}(h:ky (s::r)=true)(hb:mN s=true):dL u (s::r)=gY r [u]:=by
 unfold dL;simp_all
theorem ww{u:TUnit}{s:PStep}{r:List PStep}(h:ky (s::r)=true)(hb:mN s=false):dL u (s::r)=gY r (kO s u):=by
 unfold dL;rw[h];show gY r (bif mN s then[u]else(bg u).filter (bi s))=_
 rw[hb];rfl
def cq(s:PStep)(l:List TUnit):List TUnit:=l.flatMap fun x=>x.kids.filter (bi s)
section
variable{s:PStep}{l m r r1 X:List TUnit}{w w1:TUnit}{n N:Nat}{rs0:List PStep}{R at0:List TUnit}
theorem H9:cq s []=[]:=rfl
theorem wY:cq s (w::r)=w.kids.filter (bi s)++cq s r:=by grind[cq]
theorem Hh(rs:List PStep):gY (s::rs) l=gY rs (cq s l):=rfl
theorem Fa:dO (cq s l)≤dO l:=yM _ l
theorem fA(h:R=gY (s::rs0) l∧dO l≤N)(e:cq s []=cq s l):R=gY rs0 []∧dO []≤N:=⟨by rw[h.1,Hh,←e];rfl,by simp_all[lG]⟩
theorem fB(h:R=gY (s::rs0) l∧dO l≤N)(e:m++cq s []=cq s l):R=gY rs0 m∧dO m≤N:=by grind[H9,Hh,Fa]
theorem gA(h:cq s (w1::r1)=X):w1.kids.filter (bi s)++cq s r1=X:=wY.symm.trans h
theorem gB(h:n=m.length∧m++cq s (w1::r1)=X∧m.length+dO (w1::r1)<N):n=m.length∧m++(w1.kids.filter (bi s)++cq s r1)=X∧m.length+(dO w1.kids+dO r1)<N:=⟨h.1,wY (s:=s)▸h.2.1,by grind[bc,iS]⟩
theorem ZJ(h:(w::r).filter (bi s)++cq s r1=X)(q:bi s w=false):r.filter (bi s)++cq s r1=X:=by simp_all
theorem ZW(h:n=m.length∧m++((w::r).filter (bi s)++cq s r1)=X∧m.length+(dO (w::r)+dO r1)<N)(q:bi s w=false):n=m.length∧m++(r.filter (bi s)++cq s r1)=X∧m.length+(dO r+dO r1)<N:=⟨h.1,by simp_all,by grind[bc]⟩
theorem ZX(h:n=m.length∧m++((w::r).filter (bi s)++cq s r1)=X∧m.length+(dO (w::r)+dO r1)<N)(q:bi s w=true):n+1=(m++[w]).length∧(m++[w])++(r.filter (bi s)++cq s r1)=X∧(m++[w]).length+(dO r+dO r1)<N:=⟨by simp_all,by simp_all,by grind[H0,bc]⟩
end
section
variable{p:PId}{u:TUnit}{i:Int}{l:List PId}
theorem NK(hn:i=Int.ofNat (aA p u).length -2)(h0:ap i 0=false):[bz (gD (aA p u) i.toNat)]=oK p u (i-1+1).toNat:=by
 have h0:=aM h0;simp only[aH]at hn;have e:(i-1+1).toNat=i.toNat:=by omega
 rw[e,Aj p u (k:=i.toNat) (by omega),show i.toNat+1=(aA p u).length -1 by omega,Cp,vp]
theorem G7(h:l=oK p u (i+1).toNat)(hi:i+2≤(aA p u).length)(h0:ap i 0=false):l++[bz (gD (aA p u) i.toNat)]=oK p u (i-1+1).toNat:=by
 have h0:=aM h0;grind[Aj]
theorem RU(h:l=oK p u (i+1).toNat)(hi: -1≤i)(h0:ap i 0=true):l=pg p u:=by
 have h0:=ar h0;rw[h,show(i+1).toNat=0 by omega,DO]
theorem RY(hn:i=Int.ofNat (aA p u).length -2)(h0:ap i 0=true):pg p u=[]:=by
 have h0:=ar h0;simp only[aH]at hn;rw[←DO];have:(aA p u).length -1=0:=by omega
 grind[Cp]
end
theorem Jo{s:PStep}{l m:List TUnit}(h:dQ s l=m)(hm:m≠[]):l≠[]:=by grind[mf]
theorem UN(l:List TUnit){z:AV}(hz:z.top=0):aq (l.map aV++[z])=0:=jL.2 fun x hx=>by grind[gN]
theorem om{l x r:List TUnit}{w:TUnit}{j:Nat}(h1:l.drop j=x)(h2:x=w::r):nU w+dO r≤dO l:=by
 have e:l=l.take j++(w::r):=by grind[List.take_append_drop]
 grind[sQ,bc]
end Go.Ev
namespace Go.Ev
open Go
def pN(l:List aP)(n:Int):Bool:=pO l&&ax (ap (.ofNat l.length) n)
def AC(n:Int):Bool:=ax (ap n 0)&&ax (ap 256 n)
theorem Ix{u:TUnit}(p:List PStep)(h:nU u≤2^11):(dL u p).length≤2^22:=by
 have key:∀(rs:List PStep)(l:List TUnit),dO (gY rs l)≤dO l:=by
  intro rs;induction rs with
  |nil=>intro l;exact ah _
  |cons s r ih=>grind[Hh,Fa]
 unfold dL;cases ky p with
 |false=>simp_all
 | true=>
  simp only[cond_true];cases p with
  |nil=>simp_all
  | cons s r=>
   simp only[];refine bN (xf _) (bN (key r _) ?_);cases mN s with
   |true=>grind[bc,lG]
   |false=>
    simp only[cond_false];have h1:=Fy s u fun x hx=>dE hx
    have h2:nU u*nU u≤2^11*2^11:=Nat.mul_le_mul h h;exact bN h1 h2
theorem GY{u:TUnit}{p:List PStep}(h:dL u p=[]):au u p=(bL,7):=by grind[au]
theorem GV{u x:TUnit}{p:List PStep}(h:dL u p=[x]):au u p=(bz x,0):=by grind[au]
theorem GK{u x y:TUnit}{r:List TUnit}{p:List PStep}(h:dL u p=x::y::r):au u p=(bL,8):=by grind[au]
def wA(own:PId)(i:Int)(ok:Bool)(n:Int):PSpot×Int:=bif ok then(⟨own,i+n⟩,0)else(dt,9)
def Bh(e:Int)(sp:PSpot)(e2:Int):PSpot×Int:=bif ab e 0 then(bif ab e2 0 then(sp,0)else(dt,e2))else(dt,e)
def nh(p q own:PId)(at_:Int)(ok c bs:Bool)(sp:PSpot)(e:Int):PSpot×Int:=
 bif ax ok||((ax (bh q p)&&c)||(bh q p&&ax bs))then(dt,9)
 else bif bh q p then(⟨own,at_⟩,0)
 else bif ab e 0&&(bh sp.id own&&ap at_ sp.at_)then(⟨sp.id,sp.at_-1⟩,e)else(sp,e)
end Go.Ev
