/- An abstract machine for runs of the program, proved sound against the model: part 6. No conditions. -/
import Derived.Test.YtjokefckffbpeaaGreatDoorMach5
import Derived.Shelf.SortM.Plain
import Derived.Shelf.SortM.SortNone
import Derived.Shelf.SlSortCmp.NoneTotal
import Derived.Shelf.SlicesG.CompactI
import Derived.Lib.QuietBelow
import GoSem.ClaimJoined
import Derived.Calls
import Derived.RunT
import Derived.Below
import Derived.Shelf.Strings.FuncGrows
import Derived.Laws.RangeAny
import Derived.Lib.Join
import Derived.Lib.Repeat
import Derived.Lib.SlTrimSet
namespace Go.Ev
open Go Go.Sort Go.Proofs
section
variable{P:Program}{G:eB}{pl:Pl}{M:dB}{h:AHeap}{w w':World}
theorem tQ(hr:cG pl M h w){id:Nat}{p:Place}{sz:Nat}{op:Bool}{ep:Nat}{xs xs':List AV}{c c':Array Value}{t:TypeId}(hp:pl id=some p)(hg:h.get id=some (.row sz op ep xs))
  (hb:w.heap[p.blk]?=some (.cells c t (0,0)))(hw:w'.heap[p.blk]?=some (.cells c' t (0,0)))(hcs:c'.size=c.size)(hlen:xs'.length=xs.length)(hel:∀x,x∈xs'→x.cells.length=sz∧Sc x)
  (hcell:∀i x j y,xs'[i]?=some x→x.cells[j]?=some y→VRel pl M y (c'.getD (i*sz+j) undef))(hs:WSame w w')(hsz:w.heap.size≤w'.heap.size)(hk:∀b,b<w.heap.size→b≠p.blk→w'.heap[b]?=w.heap[b]?):
  cG pl M (h.put id (.row sz op ep xs')) w'∧dX h pl M w (h.put id (.row sz op ep xs')) pl M w':=by
 have ho:=hr.obj id p _ hp hg;rw[hb]at ho;simp only[bp]at ho;obtain⟨h1,h2,h3,h4,h5,h6,h7,h8⟩:=ho;have e:=ye (pl:=pl) hp;have:=cG.change (p':=p) (o':=.row sz op ep xs') hr hp hg (.inl rfl) hs hsz hk (.inl rfl) (wJ.1 hw).1 (by
  rw[e,hw];simp only[bp];refine⟨h1,h2,by omega,by omega,trivial,h6,fun e=>by simp_all,⟨?_,hel,fun i x j y q1 q2=>?_⟩⟩
  ·grind[cases InMem]
  simp_all)
 simp_all
variable{β:Type}[Inhabited β]
theorem qt{enc:β→Value}{blk off n:Nat}{d:Array β}{os:Array Obj}{c:Array Value}{t:TypeId}{fr:Nat×Nat}(hb:w.heap[blk]?=some (.cells c t fr)):
  (grow (putRow enc (Sort.ahead w n) blk off d) os).heap[blk]?=some (.cells (putCells enc off d c) t fr):=by
 grind[grow,putRow,mapBlock,Sort.ahead,onCells]
theorem kx{enc:β→Value}{blk off n:Nat}{d:Array β}{os:Array Obj}{b:Nat}(hb:b<w.heap.size)(hne:b≠blk):
  (grow (putRow enc (Sort.ahead w n) blk off d) os).heap[b]?=w.heap[b]?:=by
 simp only[grow,putRow,mapBlock,Sort.ahead];grind
theorem nP{enc:β→Value}{blk off n:Nat}{d:Array β}{os:Array Obj}:WSame w (grow (putRow enc (Sort.ahead w n) blk off d) os):=⟨rfl,rfl,rfl,Nat.le_add_right _ _⟩
theorem Bv{enc:β→Value}{blk off n:Nat}{d:Array β}{os:Array Obj}:w.heap.size≤(grow (putRow enc (Sort.ahead w n) blk off d) os).heap.size:=by simp_all
theorem nL{enc:β→Value}{d:Array β}{c:Array Value}{k:Nat}(hk:k<d.size)(hc:k<c.size):(putCells enc 0 d c).getD k undef=enc d[k]!:=by simp_all[putCells]
theorem qz(hr:cG pl M h w){id ep len sz:Nat}{op:Bool}{cap:Option Nat}{xs:List AV}{x:Value}(hv:VRel pl M (.slice id ep 0 len cap) x)(hg:h.get id=some (.row sz op ep xs))(hl:0<len):
  ∃p c t cap',pl id=some p∧w.heap[p.blk]?=some (.cells c t (0,0))∧x=.slice (some ⟨p.blk,0,none⟩) len cap'∧InMem pl M c 0 sz xs∧0<sz∧p.blk<w.heap.size:=by
 cases hv with
 | slice hp he hle hk ha=>
  rename_i cap' a p;have ho:=hr.obj id p _ hp hg;cases hb:w.heap[p.blk]? with
  |none=>grind[bp]
  |some ob=>
   rw[hb]at ho;cases ob<;>simp only[bp]at ho
   rename_i c t fr;obtain⟨h1,h2,h3,h4,h5,h6,h7,h8⟩:=ho;subst h5;obtain⟨k1,_⟩:=ha (by omega);have k2:a=⟨p.blk,0,none⟩:=by grind
   exact⟨p,c,t,_,hp,hb,by rw[k2],h8,h6,(wJ.1 hb).1⟩
def c8(zs:List Int):List Int:=zs.mergeSort fun x y=>decide (x≤y)
theorem iC(zs:List Int):(c8 zs).Perm zs:=List.mergeSort_perm ..
theorem tj(zs:List Int):(c8 zs).Pairwise (fun a b=>a≤b):=by
 have:=List.pairwise_mergeSort (le:=fun x y:Int=>decide (x≤y)) (by grind) (by grind) zs;exact this.imp (by simp)
theorem Ch{c:Array Value}{sz:Nat}{xs:List AV}(hm:InMem pl M c 0 sz xs){i:Nat}{x:AV}(hx:xs[i]?=some x){j:Nat}(hj:j<sz):i*sz+j<c.size∧∃y,x.cells[j]?=some y∧VRel pl M y (c.getD (i*sz+j) undef):=by
 have h1:=hm.fit;have hi:=(gd.1 hx).1;have h2:=(hm.elem x (bi hx)).1;have h3:(i+1)*sz≤xs.length*sz:=eu _ hi;rw[jG]at h3;refine⟨by omega,x.cells[j],by simp_all,?_⟩;have:=hm.cell i x j _ hx (lI (by omega:j<x.cells.length));simp_all
theorem r8{f:FuncId}(hE:∀vs w,(callFunc f vs).run P w=.ok (.enter f vs) w)
  (hC:∀(blk off cap:Nat)(zs:List Int)(w:World),Holds (Value.int .i64) w blk off zs.toArray→blk<w.heap.size→zs.length<4611686018427387904→
   Calls P f #[.slice (some ⟨blk,off,none⟩) zs.length cap] w fun e w'=>e=.returned (.tuple #[])∧∃n os,w'=grow (putRow (Value.int .i64) (Sort.ahead w n) blk off (zs.mergeSort fun x y=>decide (x≤y)).toArray) os)
  {id ep:Nat}{op:Bool}{cap:Option Nat}(zs:List Int)(hg:h.get id=some (.row 1 op ep (zs.map ak)))(hz:0<zs.length)(hb:zs.length<4611686018427387904):
  aH P G f [.slice id ep 0 zs.length cap] h (fun v h'=>v=.tuple []∧h'=h.put id (.row 1 op ep ((c8 zs).map ak))):=by
 intro pl M w vs hG hr hv;obtain⟨a,rfl,hv1⟩:=R3 hv;obtain⟨p,c,t,cap',hp,hbl,rfl,hm,_,hlt⟩:=qz hr hv1 hg hz;have hcell:∀j z,zs[j]?=some z→j<c.size∧c.getD j undef=.int .i64 z:=by
  intro j z hj;have hx:(zs.map ak)[j]?=some (ak z):=by simp_all
  obtain⟨q1,y,q2,q3⟩:=Ch hm hx (j:=0) (by omega);rw[Nat.mul_one,pu]at q1 q3;simp[ak,AV.cells]at q2;subst q2;refine⟨q1,?_⟩;cases hq:c.getD j undef<;>rw[hq]at q3<;>cases q3
  rfl
 refine .inl ⟨hE _ _,Calls.mono (hC p.blk 0 cap' zs w (fun j hj=>?_) hlt hb) fun e w' ⟨he,n,os,hw⟩=>?_⟩
 ·have hj':j<zs.length:=by omega
  obtain⟨q1,q2⟩:=hcell j zs[j] (lI hj');rw[fZ];refine⟨?_,?_⟩
  ·simp only[World.cell?,hbl];simp only[Option.isSome_none,gw,if_false];rw[Et q1];simp_all
  grind[World.frozen?]
 ·refine⟨.tuple #[],.tuple [],_,he,⟨rfl,rfl⟩,pl,M,rZ,?_⟩;have hlen:(c8 zs).length=zs.length:=(iC zs).length_eq;have hw1:w'.heap[p.blk]?=some (.cells (putCells (Value.int .i64) 0 (c8 zs).toArray c) t (0,0)):=by rw[hw];exact qt hbl
  obtain⟨r1,r2⟩:=tQ (w':=w') (xs':=(c8 zs).map ak) hr hp hg hbl hw1 (by simp[putCells]) (by simp_all) (fun x hx=>by
    obtain⟨z,_,rfl⟩:=ki.1 hx;exact⟨rfl,fun y hy=>by simp[ak,AV.cells]at hy;subst hy;rfl⟩) (fun i x j y q1 q2=>by
    rw[qW]at q1;obtain⟨z,e1,rfl⟩:=Es.1 q1;have hi:=(gd.1 e1).1;cases j with
    |succ j=>grind[ak,AV.cells]
    |zero=>
     simp[ak,AV.cells]at q2;subst q2;rw[Nat.mul_one,pu,nL (by omega) (hcell i zs[i] (lI (by omega))).1];have:(c8 zs).toArray[i]! =z:=by simp_all
     rw[this];exact .int _ _) (by grind[nP]) (by simp_all) (fun b hb hne=>by grind[kx])
  exact⟨r1,r2,ao _⟩
def bZ(zs:List Int):List Int:=Lib.compact zs
theorem xq(zs:List Int):(bZ zs).length≤zs.length:=by grind[bZ,Lib.compact,Lib.compactUpTo]
theorem om{f:FuncId}(hE:∀vs w,(callFunc f vs).run P w=.ok (.enter f vs) w)
  (hC:∀(blk off cap:Nat)(zs:List Int)(w:World),Holds (Value.int .i64) w blk off zs.toArray→zs.length≤9223372036854775807→zs.length≤cap→
   Calls P f #[.slice (some ⟨blk,off,none⟩) zs.length cap] w fun e w'=>e=.returned (.slice (some ⟨blk,off,none⟩) (Lib.compact zs).length cap)∧∃q,w'=putRow (Value.int .i64) (Sort.ahead w q) blk off (Lib.compact zs++List.replicate (zs.length-(Lib.compact zs).length) 0).toArray)
  {id ep:Nat}{op:Bool}(zs:List Int)(hg:h.get id=some (.row 1 op ep (zs.map ak)))(hz:0<zs.length)(hb:zs.length<4611686018427387904):
  aH P G f [.slice id ep 0 zs.length none] h (fun v h'=>v=.slice id ep 0 (bZ zs).length none∧h'=h.put id (.row 1 op ep ((bZ zs++List.replicate (zs.length-(bZ zs).length) 0).map ak))):=by
 intro pl M w vs hG hr hv;obtain⟨a,rfl,hv1⟩:=R3 hv;obtain⟨p,c,t,cap',hp,hbl,rfl,hm,_,hlt⟩:=qz hr hv1 hg hz;have hcell:∀j z,zs[j]?=some z→j<c.size∧c.getD j undef=.int .i64 z:=by
  intro j z hj;have hx:(zs.map ak)[j]?=some (ak z):=by simp_all
  obtain⟨q1,y,q2,q3⟩:=Ch hm hx (j:=0) (by omega);rw[Nat.mul_one,pu]at q1 q3;simp[ak,AV.cells]at q2;subst q2;refine⟨q1,?_⟩;cases hq:c.getD j undef<;>rw[hq]at q3<;>cases q3
  rfl
 have hle:=xq zs;have hcap:zs.length≤cap':=by grind[cases VRel]
 generalize hnew:bZ zs++List.replicate (zs.length-(bZ zs).length) 0=ns;have hnl:ns.length=zs.length:=by grind
 refine .inl ⟨hE _ _,Calls.mono (hC p.blk 0 cap' zs w (fun j hj=>?_) (by omega) hcap) fun e w' ⟨he,n,hw⟩=>?_⟩
 ·have hj':j<zs.length:=by omega
  obtain⟨q1,q2⟩:=hcell j zs[j] (lI hj');rw[fZ];refine⟨?_,?_⟩
  ·simp only[World.cell?,hbl];simp only[Option.isSome_none,gw,if_false];rw[Et q1];simp_all
  grind[World.frozen?]
 ·have hw2:w'=grow (putRow (Value.int .i64) (Sort.ahead w n) p.blk 0 ns.toArray) #[]:=by rw[hw,grow_empty];congr 2
  have hrel:VRel pl M (.slice id ep 0 (bZ zs).length none) (.slice (some ⟨p.blk,0,none⟩) (bZ zs).length cap'):=by
   cases hv1 with
   |slice hp he hl hk ha=>
    refine .slice hp he (by omega) hk fun e=>?_
    grind
  refine⟨_,_,_,he,⟨rfl,rfl⟩,pl,M,hrel,?_⟩;have hw1:w'.heap[p.blk]?=some (.cells (putCells (Value.int .i64) 0 ns.toArray c) t (0,0)):=by grind[qt]
  obtain⟨r1,r2⟩:=tQ (w':=w') (xs':=ns.map ak) hr hp hg hbl hw1 (by simp[putCells]) (by simp_all) (fun x hx=>by
    obtain⟨z,_,rfl⟩:=ki.1 hx;exact⟨rfl,fun y hy=>by simp[ak,AV.cells]at hy;subst hy;rfl⟩) (fun i x j y q1 q2=>by
    rw[qW]at q1;obtain⟨z,e1,rfl⟩:=Es.1 q1;have hi:=(gd.1 e1).1;cases j with
    |succ j=>grind[ak,AV.cells]
    |zero=>
     simp[ak,AV.cells]at q2;subst q2;rw[Nat.mul_one,pu,nL (by omega) (hcell i zs[i] (lI (by omega))).1];have:ns.toArray[i]! =z:=by simp_all
     rw[this];exact .int _ _) (by grind[nP]) (by simp_all) (fun b hb hne=>by grind[kx])
  exact⟨r1,r2,ao _⟩
theorem DJ{f:FuncId}(hE:∀vs w,(callFunc f vs).run P w=.ok (.enter f vs) w)
  (hC:∀(p:Option Addr)(cap:Nat)(w:World),Calls P f #[.slice p 0 cap] w fun e w'=>e=.returned (.tuple #[])∧w'=w):aM P G f [.nils] (.tuple []):=by
 intro h pl M w vs hG hr hv;obtain⟨a,rfl,hv1⟩:=R3 hv;cases hv1
 exact .inl ⟨hE _ _,Calls.mono (hC none 0 w) fun e w' ⟨he,hw⟩=>⟨.tuple #[],.tuple [],h,he,⟨rfl,rfl⟩,pl,M,rZ,by simp_all[StepF.refl]⟩⟩
theorem vY{f:FuncId}{g:Fn}(hE:∀vs w,(callFunc f vs).run P w=.ok (.enter f vs) w)
  (hC:∀(p:Option Addr)(cap:Nat)(fv:Value)(w:World),Calls P f #[.slice p 0 cap,fv] w fun e w'=>e=.returned (.tuple #[])∧w'=w):aM P G f [.nils,.func g [] []] (.tuple []):=by
 intro h pl M w vs hG hr hv;obtain⟨a,b,rfl,hv1,hv2⟩:=AD hv;cases hv1
 exact .inl ⟨hE _ _,Calls.mono (hC none 0 b w) fun e w' ⟨he,hw⟩=>⟨.tuple #[],.tuple [],h,he,⟨rfl,rfl⟩,pl,M,rZ,by simp_all[StepF.refl]⟩⟩
def Dm{α:Type}(cmp:α→α→Int)(a b:α):Bool:=decide (cmp a b<0)
theorem BK{f g:FuncId}{sz:Nat}(hGT:iO G)(hE:∀vs w,(callFunc f vs).run P w=.ok (.enter f vs) w)(hg2:∀args w,(callFunc g args).run P w=.ok (.enter g args) w)
  (hC:∀(m:Nat)(enc:Fin (m+1)→List Value)(cf:Fin (m+1)→Fin (m+1)→Int)(blk off cap:Nat)(d:Array (Fin (m+1)))(w:World),(∀x,(enc x).length=sz)→(∀x,∀v∈enc x,v.oneCell'=true)→SWO (ltOf cf)→
   CmpLays P g #[] enc sz cf blk off d.size w→HoldsK enc sz w blk off d→blk<w.heap.size→d.size<4611686018427387904→
   Calls P f #[.slice (some ⟨blk,off,none⟩) d.size cap,.func (.func g) #[] #[]] w fun e w'=>e=.returned (.tuple #[])∧∃d' n os,PermIn 0 d.size d d'∧SortedIn (ltOf cf) 0 d.size d'∧w'=sortWorldK enc sz w blk off n d' os)
  {α:Type}[Inhabited α](enc:α→AV)(cmp:α→α→Int)(hO:SWO (Dm cmp))(hag:∀a,∃cs,enc a=.agg cs)(htop:∀a,(enc a).top=0)
  (l:List α)(hcmp:∀a,a∈l→∀b,b∈l→aM P G g [enc a,enc b] (.int .i64 (cmp a b)))
  {oid ep:Nat}{op:Bool}{cap:Option Nat}(hg:h.get oid=some (.row sz op ep (l.map enc)))(hz:0<l.length)(hb:l.length<4611686018427387904):
  aH P G f [.slice oid ep 0 l.length cap,.func (.func g) [] []] h (fun v h'=>∃l':List α,(l'.Perm l∧l'.Pairwise fun a b=>Dm cmp b a=false)∧v=.tuple []∧h'=h.put oid (.row sz op ep (l'.map enc))):=by
 intro pl M w vs hG hr hv;obtain⟨a,fv,rfl,hv1,hv2⟩:=AD hv;have e2:=yT hv2;subst e2;obtain⟨p,c,t,cap',hp,hbl,rfl,hm,hsz0,hlt⟩:=qz hr hv1 hg hz;obtain⟨m,hm1⟩:∃m,l.length=m+1:=⟨l.length-1,by omega⟩
 have hfit:=hm.fit;rw[b7,fZ,hm1]at hfit;have helem:∀i:Fin (m+1),(l.map enc)[i.1]?=some (enc l[i.1]!):=fun i=>by
  have:=i.2;rw[qW,lI (by omega),getElem!_pos l i.1 (by omega)];rfl
 have hmul:∀i:Fin (m+1),i.1*sz+sz≤(m+1)*sz:=fun i=>by have:=eu sz (Nat.succ_le_of_lt i.2);rwa[qK]at this
 generalize hcof:(fun i:Fin (m+1)=>(List.range sz).map fun j=>c.getD (i.1*sz+j) undef)=cellsOf;have cl:∀i,(cellsOf i).length=sz:=fun i=>by rw[←hcof];simp
 have cg:∀i j,j<sz→(cellsOf i)[j]?=some (c.getD (i.1*sz+j) undef):=fun i j hj=>by rw[←hcof];simp[hj]
 generalize hd:(Array.ofFn (n:=m+1) id)=d;have hds:d.size=m+1:=by rw[←hd];simp
 have hdg:∀j (hj:j<m+1),d[j]! =⟨j,hj⟩:=fun j hj=>by rw[getElem!_pos d j (by omega)];subst hd;simp
 have hflat:∀(dk:Array (Fin (m+1))),dk.size=m+1→∀i j,i<m+1→j<sz→(flatK cellsOf sz dk)[i*sz+j]! =c.getD ((dk[i]!).1*sz+j) undef:=fun dk hdk i j hi hj=>by
  have h1:i*sz+j<dk.size*sz:=by have:=eu sz (Nat.succ_le_of_lt hi);rw[qK]at this;rw[hdk];omega
  rw[get_flatK cellsOf sz dk _ h1];have h2:(i*sz+j)/sz=i:=by rw[Nat.mul_comm,Nat.mul_add_div hsz0,Nat.div_eq_of_lt hj,pu]
  have h3:(i*sz+j)%sz=j:=by rw[Nat.mul_comm,Nat.mul_add_mod,Nat.mod_eq_of_lt hj]
  rw[h2,h3,getElem!_pos _ j (by rw[cl];exact hj)];have:=cg (dk[i]!) j hj;rw[lI (by rw[cl];exact hj)]at this;simpa using this
 have hH:HoldsK cellsOf sz w p.blk 0 d:=by
  intro k hk;rw[size_flatK,hds]at hk;have hi:k/sz<m+1:=Nat.div_lt_of_lt_mul (by rw[Nat.mul_comm];exact hk);have hj:k%sz<sz:=Nat.mod_lt _ hsz0;have hk2:k/sz*sz+k%sz=k:=by rw[Nat.mul_comm];exact Nat.div_add_mod k sz
  have:=hflat d hds (k/sz) (k%sz) hi hj;rw[hdg _ hi,hk2]at this;rw[this,fZ];have hkc:k<c.size:=by omega
  refine⟨?_,by simp[World.frozen?,hbl]⟩;simp only[World.cell?,hbl];simp only[Option.isSome_none,gw,if_false];rw[Et hkc];simp[Array.getD,hkc]
 have hrelE:∀(i:Fin (m+1)) cs,enc l[i.1]! =.agg cs→cs.length=sz∧(∀y,y∈cs→cL y=true)∧∀(j:Nat)(y:AV),cs[j]?=some y→VRel pl M y (c.getD (i.1*sz+j) undef):=by
  intro i cs hcs;have h1:=hm.elem _ (bi (helem i));rw[hcs]at h1;refine⟨h1.1,h1.2,fun j y hj=>?_⟩;have:=hm.cell i.1 _ j y (helem i) (by rw[hcs];exact hj);rwa[fZ]at this
 have hone:∀i,∀v∈cellsOf i,v.oneCell'=true:=by
  intro i v hvm;obtain⟨j,hj,e⟩:=Er hvm;rw[cl]at hj;have h1:=cg i j hj;rw[lI (by rw[cl];exact hj),e]at h1;obtain⟨cs,hcs⟩:=hag l[i.1]!;obtain⟨k1,k2,k3⟩:=hrelE i cs hcs;have:=k3 j cs[j] (lI (by omega));cases h1
  exact this.one (k2 _ (C7 _))
 have hmemL:∀i:Fin (m+1),l[i.1]!∈l:=fun i=>by
  have:=i.2;rw[getElem!_pos l i.1 (by omega)];exact C7 _
 have hlays:CmpLays P g #[] cellsOf sz (fun i j=>cmp l[i.1]! l[j.1]!) p.blk 0 d.size w:=by
  intro n os dk hdk x y;generalize hW:sortWorldK cellsOf sz w p.blk 0 n dk os=W;have hWo:∀b,b<w.heap.size→b≠p.blk→W.heap[b]?=w.heap[b]?:=fun b h1 h2=>by rw[←hW];exact kx h1 h2
  have hrW:cG (fun _=>none) M AHeap.none W:=qb (pl:=fun _=>none) (n:=0) (g:=AHeap.none.get) ⟨fun _ _ h=>by simp at h,fun _ _ _ h=>by simp at h,fun _ _ h=>by simp at h,fun _ _ _ _ h=>by simp at h,fun b c' hM=>by
   obtain⟨t',fr,q⟩:=hr.imm b c' hM;refine⟨t',fr,?_⟩;rw[hWo b (hr.memLt hM) (fun e=>by have:=hr.sep oid p hp;rw[←e,hM]at this;cases this)];exact q,fun _ _ h=>by simp at h⟩
  have hrel:∀i:Fin (m+1),VRel (fun _=>none) M (enc l[i.1]!) (.agg (cellsOf i).toArray):=by
   intro i;obtain⟨cs,hcs⟩:=hag l[i.1]!;obtain⟨k1,k2,k3⟩:=hrelE i cs hcs;have ht:=htop l[i.1]!;rw[hcs]at ht ⊢;refine .agg (by simp[cl,k1]) k2 fun j y hj=>?_
   have hj':j<sz:=by rw[←k1];exact(gd.1 hj).1
   have e:(cellsOf i).toArray.getD j undef=c.getD (i.1*sz+j) undef:=by
    have:=cg i j hj';rw[gF,n6,this];rfl
   rw[e];exact(k3 j y hj).none (j9.1 ht y (bi hj))
  have hc:=hcmp _ (hmemL x) _ (hmemL y) AHeap.none (fun _=>none) M W #[.agg (cellsOf x).toArray,.agg (cellsOf y).toArray] (hG.none hGT) hrW ⟨rfl,fun j z hj=>by
   match j,hj with
   |0,hj=>cases hj;exact hrel x
   |1,hj=>cases hj;exact hrel y⟩
  rcases hc with⟨h1,h2⟩|⟨cv,w',v,h',h1,h2,h3⟩
  ·refine Calls.mono h2 fun e w' ⟨cv,v,h',k1,k2,pl',M',k3,k4,k5,k6⟩=>?_
   obtain⟨k2,_⟩:=k2;subst k2;cases k3
   refine⟨k1,?_⟩;obtain⟨q,hq⟩:=regrown_of_below (w:=W) (w':=w') ⟨k5.os,k5.tape,k5.out,k5.size,fun b hb=>k5.kept b hb fun id p h=>by simp at h⟩;refine⟨w'.drawn-W.drawn,q.os,?_⟩;have hd1:w'.drawn=q.d:=by rw[hq];rfl
   have hd2:=k5.drawn;have:redrawn W q.d=W.drewN (w'.drawn-W.drawn):=by
    show({W with drawn:=q.d}:World)={W with drawn:=W.drawn+(w'.drawn-W.drawn)}
    congr 1;omega
   rw[←this];exact hq
  ·rw[hg2]at h1;cases h1
 refine .inl ⟨hE _ _,?_⟩;have hcall:=hC m cellsOf (fun i j=>cmp l[i.1]! l[j.1]!) p.blk 0 cap' d w cl hone ⟨fun x=>hO.irrefl _,fun x y z=>hO.trans _ _ _,fun x y z=>hO.ntrans _ _ _⟩ hlays hH hlt (by omega);rw[show d.size=l.length by omega]at hcall;refine Calls.mono hcall fun e w' ⟨he,d',n,os,hP,hS,hw⟩=>?_
 obtain⟨hp1,_,hp3⟩:=hP;have hd's:d'.size=m+1:=by omega
 have hperm:d'.toList.Perm d.toList:=by
  have e1:d'.extract 0 l.length=d':=by rw[show l.length=d'.size by omega];exact Array.extract_size
  have e2:d.extract 0 l.length=d:=by rw[show l.length=d.size by omega];exact Array.extract_size
  rwa[e1,e2]at hp3
 have hdl:d.toList.map (fun i=>l[i.1]!)=l:=by
  apply List.ext_getElem?;intro i;by_cases hi:i<l.length
  ·rw[qW,Array.getElem?_toList,Et (by omega),lI hi];have:=hdg i (by omega);rw[getElem!_pos d i (by omega)]at this;rw[this];show some (l[i]!)=some l[i]
   rw[getElem!_pos l i hi]
  ·rw[List.getElem?_eq_none (by simp;omega),List.getElem?_eq_none (by omega)]
 have hl':(d'.toList.map (fun i=>l[i.1]!)).length=l.length:=by simp;omega
 refine⟨.tuple #[],.tuple [],_,he,⟨d'.toList.map (fun i=>l[i.1]!),⟨?_,?_⟩,rfl,rfl⟩,pl,M,rZ,?_⟩
 ·have:=hperm.map (fun i=>l[i.1]!);rwa[hdl]at this
 ·rw[Jl];intro i j hi hj hij;have hi':i<d'.size:=by simpa using hi
  have hj':j<d'.size:=by simpa using hj
  have:=hS i j (bL _) hij (by omega);rw[getElem!_pos d' i hi',getElem!_pos d' j hj']at this;simpa[Dm,ltOf]using this
 ·have hw1:w'.heap[p.blk]?=some (.cells (putCells id 0 (flatK cellsOf sz d') c) t (0,0)):=by rw[hw];exact qt hbl
  obtain⟨r1,r2⟩:=tQ (w':=w') (xs':=(d'.toList.map (fun i=>l[i.1]!)).map enc) hr hp hg hbl hw1 (by simp[putCells]) (by simp;omega) (fun x hx=>by
    obtain⟨z,h1,rfl⟩:=ki.1 hx;obtain⟨i,_,rfl⟩:=ki.1 h1;exact hm.elem _ (bi (helem i))) (fun i x j y q1 q2=>by
    rw[qW,qW,Array.getElem?_toList]at q1;obtain⟨z,e1,rfl⟩:=Es.1 q1;obtain⟨k,e2,rfl⟩:=Es.1 e1;have hi:i<d'.size:=(wJ.1 e2).1;obtain⟨cs,hcs⟩:=hag l[k.1]!;obtain⟨k1,k2,k3⟩:=hrelE k cs hcs;rw[hcs]at q2;have hj:j<sz:=by rw[←k1];exact(gd.1 q2).1
    have hb1:i*sz+j<(m+1)*sz:=by have:=eu sz (Nat.succ_le_of_lt (show i<m+1 by omega));rw[qK]at this;omega
    rw[nL (by rw[size_flatK,hd's];exact hb1) (by omega)];have:=hflat d' hd's i j (by omega) hj;have e3:d'[i]! =k:=by rw[getElem!_pos d' i hi];rw[Et hi]at e2;simpa using e2
    rw[e3]at this;show VRel pl M y (flatK cellsOf sz d')[i*sz+j]!
    rw[this];exact k3 j y q2) (by rw[hw];exact nP) (by rw[hw];exact Bv) (fun b hb hne=>by rw[hw];exact kx hb hne)
  exact⟨r1,r2,ao _⟩
end
end Go.Ev
namespace Go.Ev
open Go
theorem yU(a b:Int):aC (j6 a b) 0=aC a b:=by
 unfold j6;cases h:aC a b with
 |true=>rfl
 |false=>cases h2:aC b a<;>rfl
noncomputable def n4(l:List PSpan)(d:Int):Nat:=(l.takeWhile fun s=>aC s.from_ d).length
theorem D8(l:List PSpan)(d:Int):n4 l d≤l.length:=by
 induction l with
 |nil=>simp[n4]
 |cons a r ih=>grind[n4,List.takeWhile_cons]
def sY(l:List PSpan):Prop:=l.Pairwise fun a b=>a.from_≤b.from_
theorem Ag{d:Int}:∀{l:List PSpan},sY l→∀k,k<l.length→(aC (gD l k).from_ d=true↔k<n4 l d)
 |[],_,k,h=>by simp_all
 | a::r,hs,k,h=>by
  obtain⟨h1,h2⟩:=jF.1 hs;unfold n4;rw[List.takeWhile_cons];cases q:aC a.from_ d with
  | true=>
   simp only[if_true,cT];cases k with
   |zero=>grind[gD]
   |succ k=>
    have:=Ag (d:=d) h2 k (by simp_all);rw[show gD (a::r) (k+1)=gD r k from rfl,this];grind[n4]
  |false=>
   simp only[gw,if_false,gE,qZ,iff_false,Bool.not_eq_true];have hd:=aG q;grind[ib,lk]
noncomputable def IE(l:List PSpan)(d:Int):Bool:=aC (Int.ofNat (n4 l d)) (Int.ofNat l.length)&&ah (j6 (gD l (n4 l d)).from_ d) 0
theorem OX{l:List PSpan}(h:l.Pairwise fun a b=>a.to<b.from_)(h2:∀s,s∈l→s.from_<s.to):sY l:=by
 induction l with
 |nil=>exact .nil
 |cons a r ih=>
  obtain⟨h3,h4⟩:=jF.1 h;refine jF.2 ⟨fun b hb=>?_,ih h4 fun s hs=>h2 s (fQ _ hs)⟩;grind
structure NrmS(l:List PSpan):Prop where
 gap:l.Pairwise fun a b=>a.to<b.from_
 ok:∀s,s∈l→0≤s.from_∧s.from_<s.to∧s.to≤1048577
theorem NrmS.sort{l:List PSpan}(h:NrmS l):sY l:=OX h.gap fun s hs=>(h.ok s hs).2.1
theorem Ht:∀{l:List PSpan}{b:Int},l.Pairwise (fun a b=>a.to<b.from_)→(∀s,s∈l→b≤s.from_∧s.from_<s.to∧s.to≤1048577)→b≤1048577→Int.ofNat l.length≤1048577-b
 |[],b,_,_,hb=>by simp_all
 |a::r,b,h,h2,hb=>by
  obtain⟨h3,h4⟩:=jF.1 h;have h5:=h2 a (eN ..);have:=Ht (l:=r) (b:=b+1) h4 (fun s hs=>by grind) (by omega);grind
theorem NrmS.len{l:List PSpan}(h:NrmS l):l.length≤1048577:=by
 have:=Ht (b:=0) h.gap h.ok (by omega);grind
noncomputable def iF(l:List PSpan)(d:Int):Bool:=IE l d||(aC 0 (Int.ofNat (n4 l d))&&aC d (gD l (n4 l d-1)).to)
theorem Dh(a b:Int):Cj a b=max a b:=by
 unfold Cj;cases h:aC a b with
 |true=>have:=ap h;grind
 |false=>have:=aG h;grind
theorem Im(a b:Int):NZ a b=min a b:=by
 unfold NZ;cases h:aC b a with
 |true=>have:=ap h;grind
 |false=>have:=aG h;grind
noncomputable abbrev Vo(s:PSpan):PSpan:=⟨Cj s.from_ 0,NZ s.to 1048577⟩
noncomputable abbrev Xh(s:PSpan):Bool:=aC (Cj s.from_ 0) (NZ s.to 1048577)
noncomputable def jg:List PSpan→List PSpan
 |[]=>[]
 |s::r=>match Xh s with|true=>Vo s::jg r|false=>jg r
theorem uE{s:PSpan}{r:List PSpan}(h:Xh s=true):jg (s::r)=Vo s::jg r:=by grind[jg]
theorem uF{s:PSpan}{r:List PSpan}(h:Xh s=false):jg (s::r)=jg r:=by grind[jg]
theorem CN:∀(l:List PSpan),(jg l).length≤l.length
 |[]=>by simp[jg]
 |s::r=>by
  have:=CN r;cases h:Xh s with
  |true=>grind[uE]
  |false=>grind[uF]
theorem Ah:∀{l:List PSpan}{s:PSpan},s∈jg l→0≤s.from_∧s.from_<s.to∧s.to≤1048577
 | a::r,s,hs=>by
  cases h:Xh a with
  |true=>
   rw[uE h]at hs;rcases fC.1 hs with e|e
   ·subst e;have h2:=ap h;grind[Dh,Im]
   ·exact Ah e
  |false=>rw[uF h]at hs;exact Ah hs
def memB(l:List PSpan)(d:Int):Bool:=l.any fun s=>decide (s.from_≤d∧d<s.to)
def OY(d:Int):Bool:=decide (0≤d∧d<1048577)
theorem mL(d:Int):memB [] d=false:=rfl
theorem eh(a:PSpan)(l:List PSpan)(d:Int):memB (a::l) d=(decide (a.from_≤d∧d<a.to)||memB l d):=rfl
theorem zb(l r:List PSpan)(d:Int):memB (l++r) d=(memB l d||memB r d):=by simp[memB]
theorem je{l:List PSpan}{d:Int}:memB l d=true↔∃s,s∈l∧s.from_≤d∧d<s.to:=by simp[memB]
theorem NW{l r:List PSpan}(h:l.Perm r)(d:Int):memB l d=memB r d:=by
 rw[C8,je,je];grind
theorem CM:∀(l:List PSpan)(d:Int),memB (jg l) d=(OY d&&memB l d)
 |[],d=>by simp[jg,memB]
 | a::r,d=>by
  have ih:=CM r d;have e:∀b:Bool,(b=decide (0≤d∧d<1048577∧a.from_≤d∧d<a.to))→(b||(OY d&&memB r d))=(OY d&&memB (a::r) d):=fun b hb=>by grind[eh,OY]
  cases h:Xh a with
  |true=>
   rw[uE h,eh,ih];refine e _ ?_;simp only[Dh,Im];grind
  |false=>
   rw[uF h,ih];have h2:=aG h;simp only[Dh,Im]at h2;grind
theorem NrmS.tail{a:PSpan}{r:List PSpan}(h:NrmS (a::r)):NrmS r:=⟨(jF.1 h.gap).2,fun s hs=>h.ok s (fQ _ hs)⟩
theorem NrmS.low{a x:PSpan}{r:List PSpan}(h:NrmS (a::r))(hx:x∈r):a.to<x.from_:=(jF.1 h.gap).1 x hx
theorem NrmS.head{a:PSpan}{r:List PSpan}(h:NrmS (a::r)):0≤a.from_∧a.from_<a.to∧a.to≤1048577:=h.ok a (eN ..)
theorem xT:NrmS []:=⟨.nil,fun s h=>by grind⟩
theorem rq{a:PSpan}{r:List PSpan}(h:NrmS (a::r)):memB (a::r) a.from_=true:=by grind[eh,cases NrmS]
theorem Fu{a:PSpan}{r:List PSpan}(h:NrmS (a::r)){d:Int}(hd:memB (a::r) d=true):a.from_≤d:=by
 obtain⟨s,h1,h2,h3⟩:=je.1 hd;rcases fC.1 h1 with e|e
 ·simp_all
 ·have:=h.low e;grind[cases NrmS]
theorem PS{a:PSpan}{r:List PSpan}(h:NrmS (a::r)):memB (a::r) a.to=false:=by
 cases q:memB (a::r) a.to with
 |false=>rfl
 |true=>
  obtain⟨s,h1,h2,h3⟩:=je.1 q;rcases fC.1 h1 with e|e
  ·simp_all
  ·have:=h.low e;omega
theorem Ft{a:PSpan}{r:List PSpan}(h:NrmS (a::r))(d:Int):memB r d=(decide (a.to≤d)&&memB (a::r) d):=by
 rw[eh];by_cases h1:a.to≤d
 ·grind
 ·have:memB r d=false:=by
   cases q:memB r d with
   |false=>rfl
   |true=>
    obtain⟨s,h2,h3,h4⟩:=je.1 q;have:=h.low h2;omega
  grind
theorem zq:∀{r s:List PSpan},NrmS r→NrmS s→(∀d,memB r d=memB s d)→r=s
 |[],[],_,_,_=>rfl
 |[],b::s,_,hs,h=>by grind[rq,mL]
 |a::r,[],hr,_,h=>by grind[rq,mL]
 | a::r,b::s,hr,hs,h=>by
  have h1:b.from_≤a.from_:=Fu hs (by grind[rq]);have h2:a.from_≤b.from_:=Fu hr (by grind[rq]);have ha:=hr.head;have hb:=hs.head;have h3:¬a.to<b.to:=fun q=>by grind[eh,PS]
  have h4:¬b.to<a.to:=fun q=>by grind[eh,PS]
  have e:a=b:=by
   obtain⟨a1,a2⟩:=a;obtain⟨b1,b2⟩:=b;grind
  subst e;rw[zq hr.tail hs.tail fun d=>by rw[Ft hr,Ft hs,h]]
def v8(f:Int→Bool)(d:Int)(l:List PSpan):List PSpan:=match f d with
 |false=>l
 |true=>match l with
  |[]=>[⟨d,d+1⟩]
  |s::r=>if s.from_=d+1 then⟨d,s.to⟩::r else⟨d,d+1⟩::s::r
def wl(f:Int→Bool):Nat→List PSpan
 |0=>[]
 |k+1=>v8 f (1048577-Int.ofNat (k+1)) (wl f k)
theorem N7{f:Int→Bool}{d:Int}{l:List PSpan}(h0:0≤d)(h1:d+1≤1048577)(hl:NrmS l)(hf:∀s,s∈l→d+1≤s.from_):
  NrmS (v8 f d l)∧(∀s,s∈v8 f d l→d≤s.from_)∧∀e,memB (v8 f d l) e=((decide (e=d)&&f e)||memB l e):=by
 unfold v8;cases hfd:f d with
 |false=>grind
 | true=>
  match l,hl,hf with
  |[],_,_=>
   refine⟨⟨by simp,fun s hs=>by grind⟩,fun s hs=>by simp_all,fun e=>?_⟩;simp only[eh,mL,Bool.or_false];grind
  | s::r,hl,hf=>
   have hs:=hl.head;have hs2:=hf s (eN ..);simp only[];by_cases q:s.from_=d+1
   ·rw[if_pos q];refine⟨⟨jF.2 ⟨fun x hx=>hl.low hx,hl.tail.gap⟩,fun x hx=>?_⟩,fun x hx=>?_,fun e=>?_⟩
    ·grind[cases NrmS]
    ·grind
    ·simp only[eh];grind
   ·rw[if_neg q];refine⟨⟨jF.2 ⟨fun x hx=>?_,hl.gap⟩,fun x hx=>?_⟩,fun x hx=>?_,fun e=>?_⟩
    ·have:=hf x hx;rcases fC.1 hx with e|e
     ·grind
     ·have:=hl.low e;grind
    ·rcases fC.1 hx with e|e
     ·grind
     ·exact hl.ok x e
    ·grind
    ·rw[eh];grind
theorem Fz(f:Int→Bool):∀k,k≤1048577→NrmS (wl f k)∧(∀s,s∈wl f k→1048577-Int.ofNat k≤s.from_)∧∀e,memB (wl f k) e=(decide (1048577-Int.ofNat k≤e∧e<1048577)&&f e)
 |0,_=>by
  refine⟨xT,fun s h=>(by cases h),fun e=>?_⟩;have:decide (1048577-Int.ofNat 0≤e∧e<1048577)=false:=by simp_all
  rw[this];rfl
 |k+1,hk=>by
  obtain⟨h1,h2,h3⟩:=Fz f k (by omega);simp only[aN]at *;have:=N7 (f:=f) (d:=1048577-((k+1:Nat):Int)) (l:=wl f k) (by omega) (by omega) h1 (fun s hs=>by grind);have h5:wl f (k+1)=v8 f (1048577-((k+1:Nat):Int)) (wl f k):=by grind[wl]
  grind
theorem P0(f:Int→Bool):∃l:List PSpan,NrmS l∧∀d,memB l d=(OY d&&f d):=by
 obtain⟨h1,_,h3⟩:=Fz f 1048577 (ao _);exact⟨_,h1,fun d=>by simp_all[OY]⟩
noncomputable def nf(f:Int→Bool):List PSpan:=Classical.choose (P0 f)
theorem zx(f:Int→Bool):NrmS (nf f):=(Classical.choose_spec (P0 f)).1
theorem Ih(f:Int→Bool)(d:Int):memB (nf f) d=(OY d&&f d):=(Classical.choose_spec (P0 f)).2 d
theorem P2{f:Int→Bool}{r:List PSpan}(h:NrmS r)(hm:∀d,memB r d=(OY d&&f d)):r=nf f:=zq h (zx f) fun d=>by grind[Ih]
theorem P3{f g:Int→Bool}(h:∀d,OY d=true→f d=g d):nf f=nf g:=P2 (zx f) fun d=>by
 rw[Ih];grind
theorem KC{l:List PSpan}(h:NrmS l):l=nf (memB l):=P2 h fun d=>by
 cases q:memB l d with
 |false=>simp_all
 |true=>
  obtain⟨s,h1,h2,h3⟩:=je.1 q;have:=h.ok s h1;have:OY d=true:=by unfold OY;grind
  simp_all
theorem xG{α:Type}[Inhabited α]{l:List α}{n:Nat}(h:n<l.length):l.take (n+1)=l.take n++[gD l n]:=by grind[List.take_add_one,gD]
theorem rg{α:Type}[Inhabited α]{l:List α}{n:Nat}(h:n<l.length):l.drop n=gD l n::l.drop (n+1):=by grind[List.drop_eq_getElem_cons,gD]
theorem tv{α:Type}{l:List α}{n m:Nat}{x:α}(h:n≤m):(l.set m x).take n=l.take n:=by
 apply List.ext_getElem?;grind
theorem IM{α:Type}[Inhabited α]{l:List α}{i k:Nat}{x:α}(h:i<l.length):gD (l.set i x) k=if k=i then x else gD l k:=by
 unfold gD List.getD;grind
theorem sY.at{l:List PSpan}(h:sY l){i k:Nat}(hik:i≤k)(hk:k<l.length):(gD l i).from_≤(gD l k).from_:=by
 rcases fF i k with q|q
 ·have:=Jl.1 h i k (by omega) hk q;grind[gD]
 grind
structure MergeI(l cur:List PSpan)(n i:Nat):Prop where
 len:cur.length=l.length
 le:n≤i
 il:i≤l.length
 pos:0<i→0<n
 rest:∀k,i≤k→k<l.length→gD cur k=gD l k
 gap:∀j k,j<k→k<n→(gD cur j).to<(gD cur k).from_
 ok:∀k,k<n→0≤(gD cur k).from_∧(gD cur k).from_<(gD cur k).to∧(gD cur k).to≤1048577
 last:0<n→∀k,i≤k→k<l.length→(gD cur (n-1)).from_≤(gD l k).from_
 mem:∀d,(memB (cur.take n) d||memB (l.drop i) d)=memB l d
theorem MergeI.start(l:List PSpan):MergeI l l 0 0:=⟨rfl,ao _,bL _,fun h=>absurd h (wK _),fun _ _ _=>rfl,fun _ _ _ h=>absurd h (qZ _),fun _ h=>absurd h (qZ _),fun h=>absurd h (wK _),fun d=>by simp[memB]⟩
theorem MergeI.copy{l cur:List PSpan}{n i:Nat}(h:MergeI l cur n i)(hi:i<l.length)(hs:sY l)(hok:∀k,k<l.length→0≤(gD l k).from_∧(gD l k).from_<(gD l k).to∧(gD l k).to≤1048577)
  (hn:n=0∨(gD cur (n-1)).to<(gD cur i).from_):MergeI l (cur.set n (gD cur i)) (n+1) (i+1):=by
 rw[h.rest i (ao _) hi]at hn ⊢;have hl:=h.le;have hcl:=h.len;have hg:∀k,gD (cur.set n (gD l i)) k=if k=n then gD l i else gD cur k:=fun k=>IM (by omega)
 refine⟨by simp_all,by omega,by omega,fun _=>by omega,fun k h1 h2=>?_,fun j k h1 h2=>?_,fun k h1=>?_,fun _ k h1 h2=>?_,fun d=>?_⟩
 ·grind[cases MergeI]
 ·rw[hg,hg,if_neg (by omega)];by_cases e:k=n
  ·rw[if_pos e];rcases hn with hn|hn
   ·omega
   ·by_cases e2:j=n-1
    ·simp_all
    ·have h3:=h.gap j (n-1) (by omega) (by omega);grind[cases MergeI]
  ·grind[cases MergeI]
 ·rw[hg];by_cases e:k=n
  ·simp_all
  ·grind[cases MergeI]
 ·rw[hg,if_pos (by omega)];exact hs.at (by omega) h2
 ·rw[xG (by grind),hg,if_pos rfl,tv (ao _),zb,←h.mem d,rg hi,eh,eh,mL];grind
theorem MergeI.join{l cur:List PSpan}{n i:Nat}(h:MergeI l cur n i)(hi:i<l.length)(hs:sY l)(hok:∀k,k<l.length→0≤(gD l k).from_∧(gD l k).from_<(gD l k).to∧(gD l k).to≤1048577)
  (hn:0<n)(hle:(gD cur i).from_≤(gD cur (n-1)).to)(x:Int)(hx:x=Cj (gD cur (n-1)).to (gD cur i).to):MergeI l (cur.set (n-1) ⟨(gD cur (n-1)).from_,x⟩) n (i+1):=by
 rw[h.rest i (ao _) hi]at hle;rw[h.rest i (ao _) hi,Dh]at hx;have hl:=h.le;have hcl:=h.len;have hg:∀k,gD (cur.set (n-1) ⟨(gD cur (n-1)).from_,x⟩) k=if k=n-1 then⟨(gD cur (n-1)).from_,x⟩else gD cur k:=fun k=>IM (by omega)
 have h4:=h.ok (n-1) (by omega);have h5:=hok i hi;have h6:=h.last hn i (ao _) hi;refine⟨by simp_all,by omega,by omega,fun _=>hn,fun k h1 h2=>?_,fun j k h1 h2=>?_,fun k h1=>?_,fun _ k h1 h2=>?_,fun d=>?_⟩
 ·grind[cases MergeI]
 ·rw[hg,hg,if_neg (by omega)];by_cases e:k=n-1
  ·grind[cases MergeI]
  ·grind[cases MergeI]
 ·rw[hg];by_cases e:k=n-1
  ·grind
  ·grind[cases MergeI]
 ·grind[cases MergeI]
 ·obtain⟨m,rfl⟩:∃m,n=m+1:=⟨n-1,by omega⟩
  simp only[Nat.add_sub_cancel]at *;rw[xG (by grind),hg,if_pos rfl,tv (ao _),zb,←h.mem d,rg hi,eh (gD l i),xG (by omega),zb,eh,eh,mL,Bool.or_false,Bool.or_false];grind
theorem MergeI.nrm{l cur:List PSpan}{n i:Nat}(h:MergeI l cur n i):NrmS (cur.take n):=by
 have hl:=h.le;have hcl:=h.len;have hil:=h.il;have hlen:(cur.take n).length=n:=by grind
 have hg:∀k (hk:k<(cur.take n).length),(cur.take n)[k]=gD cur k:=fun k hk=>by rw[List.getElem_take];unfold gD List.getD;grind
 refine⟨?_,fun s hs=>?_⟩;all_goals grind[List.pairwise_iff_getElem,List.getElem_of_mem,cases MergeI]
theorem MergeI.done{l cur:List PSpan}{n i:Nat}(h:MergeI l cur n i)(hi:l.length≤i)(d:Int):memB (cur.take n) d=memB l d:=by rw[←h.mem d,Ep hi,mL,Bool.or_false]
theorem RF{l l':List PSpan}(hp:l'.Perm (jg l)):∀k,k<l'.length→0≤(gD l' k).from_∧(gD l' k).from_<(gD l' k).to∧(gD l' k).to≤1048577:=fun k hk=>Ah (hp.mem_iff.1 (ib hk))
noncomputable def iX(l:List PSpan):List PSpan:=nf (memB l)
theorem FC{l r:List PSpan}(h:NrmS r)(hm:∀d,memB r d=memB (jg l) d):r=iX l:=P2 h fun d=>by grind[CM]
theorem M8{l:List PSpan}(h:jg l=[]):[]=iX l:=FC xT fun d=>by grind
end Go.Ev
namespace Go.Ev
open Go
theorem Ae{zs:List Int}(hs:zs.Pairwise fun a b=>a≤b):(bZ zs).Pairwise (fun a b=>a<b)∧∀z,z∈bZ zs↔z∈zs:=by
 generalize hd:zs.toArray=d;have hsz:d.size=zs.length:=by grind
 have hx:∀j (hj:j<zs.length),d[j]! =zs[j]:=fun j hj=>by grind
 have mono:∀i j,i≤j→j<zs.length→d[i]!≤d[j]!:=fun i j hij hj=>by
  rcases fF i j with q|q
  ·rw[hx i (by omega),hx j hj];exact Jl.1 hs i j (by omega) hj q
  grind
 have key:∀m,m≤zs.length→(Lib.compactUpTo d m).Pairwise (fun a b=>a<b)∧(∀z,z∈Lib.compactUpTo d m→∃j,j<m∧z=d[j]!)∧∀j,j<m→d[j]!∈Lib.compactUpTo d m:=by
  intro m;induction m with
  |zero=>simp_all[Lib.compactUpTo]
  | succ m ih=>
   intro hm;obtain⟨h1,h2,h3⟩:=ih (by omega);rw[Lib.compactUpTo_succ];cases hk:Lib.keeps d m with
   | true=>
    simp only[if_true];have hk':m=0∨d[m]!≠d[m-1]!:=by grind[Lib.keeps]
    refine⟨List.pairwise_append.2 ⟨h1,by simp,fun a ha b hb=>?_⟩,fun z hz=>?_,fun j hj=>?_⟩
    ·obtain⟨j,hj,rfl⟩:=h2 a ha;have hb:b=d[m]!:=by simp_all
     subst hb;have e1:=mono j (m-1) (by omega) (by omega);have e2:=mono (m-1) m (by omega) (by omega);omega
    all_goals grind
   |false=>
    simp only[gw,if_false,ec];have hk':¬(m=0∨d[m]!≠d[m-1]!):=by grind[Lib.keeps]
    grind
 obtain⟨h1,h2,h3⟩:=key zs.length (ao _);have e:bZ zs=Lib.compactUpTo d zs.length:=by grind[bZ,Lib.compact]
 rw[e];refine⟨h1,fun z=>⟨fun hz=>?_,fun hz=>?_⟩⟩
 ·grind
 ·obtain⟨j,hj,rfl⟩:=Er hz;simp_all
theorem NrmS.at{l:List PSpan}(h:NrmS l){j k:Nat}(hjk:j<k)(hk:k<l.length):(gD l j).to<(gD l k).from_:=by
 have:=Jl.1 h.gap j k (by omega) hk hjk;grind[gD]
theorem NrmS.okAt{l:List PSpan}(h:NrmS l){k:Nat}(hk:k<l.length):0≤(gD l k).from_∧(gD l k).from_<(gD l k).to∧(gD l k).to≤1048577:=h.ok _ (ib hk)
theorem Ti{l:List PSpan}{d:Int}:memB l d=true↔∃k,k<l.length∧(gD l k).from_≤d∧d<(gD l k).to:=by
 rw[je];constructor
 ·rintro⟨s,h1,h2⟩
  obtain⟨k,hk,e⟩:=Er h1;have:gD l k=s:=by grind[gD]
  grind
 grind[ib]
theorem CI {a b:Int}:ah (j6 a b) 0=true↔a=b:=by
 unfold j6;cases h:aC a b with
 | true => have:=ap h;constructor
           ·intro h;cases h
           omega
 |false=>
  have:=aG h;cases h2:aC b a with
  | true => have:=ap h2;constructor
            ·intro h;cases h
            omega
  |false=>have:=aG h2;exact⟨fun _=>by omega,fun _=>rfl⟩
theorem Th{l:List PSpan}(h:NrmS l)(d:Int):iF l d=memB l d:=by
 have hi:=Ag (d:=d) h.sort;have hc:=D8 l d;rw[C8,Ti];unfold iF IE;simp only[tW,bx];constructor
 ·rintro(⟨h1,h2⟩|⟨h1,h2⟩)
  ·have h1:=ap h1;simp only[aN]at h1;have h2:=CI.1 h2;have:=h.okAt (k:=n4 l d) (by omega);grind
  ·have h1:=ap h1;have h2:=ap h2;simp only[aN]at h1;have h3:=ap ((hi (n4 l d-1) (by omega)).2 (by omega));grind
 ·rintro⟨k,hk,h1,h2⟩
  by_cases e:(gD l k).from_=d
  ·left;have e1:¬k<n4 l d:=fun q=>by have:=ap ((hi k hk).2 q);omega
   have e2:¬n4 l d<k:=fun q=>by
    have h3:=h.at q hk;have h4:=h.okAt (k:=n4 l d) (by omega);grind[ko]
   have e3:n4 l d=k:=by omega
   rw[e3];exact⟨ko (by simp_all),CI.2 e⟩
  ·right;have e1:k<n4 l d:=(hi k hk).1 (ko (by omega));have e2:¬k+1<n4 l d:=fun q=>by
    have h3:=h.at (j:=k) (k:=k+1) (by omega) (by omega);have:=ap ((hi (k+1) (by omega)).2 q);omega
   grind[ko]
def pa(l:List PSpan):List Int:=l.flatMap fun s=>[s.from_,s.to]
theorem CD(s:PSpan)(r:List PSpan):pa (s::r)=[s.from_,s.to]++pa r:=by simp[pa]
theorem kw:∀(l:List PSpan),(pa l).length=2*l.length
 |[]=>rfl
 |s::r=>by rw[CD];simp[kw r];omega
theorem GN{l:List PSpan}{s:PSpan}(h:s∈l):s.from_∈pa l∧s.to∈pa l:=by
 unfold pa;grind
def kJ(g:Int→Bool):List Int→List PSpan
 |[]=>[]
 | a::r=>match r with
  |[]=>[]
  |b::_=>match g a with
   |true=>⟨a,b⟩::kJ g r
   |false=>kJ g r
theorem FV(g:Int→Bool)(a b:Int)(r:List Int):kJ g (a::b::r)=match g a with|true=>⟨a,b⟩::kJ g (b::r)|false=>kJ g (b::r):=by rw[kJ]
def oV:Int→List Int→Int
 |a,[]=>a
 |_,b::r=>oV b r
theorem zt:∀{r:List Int}{a:Int},(a::r).Pairwise (fun a b=>a<b)→a≤oV a r∧∀z,z∈r→z≤oV a r
 |[],a,_=>⟨Int.le_refl _,fun z h=>by grind⟩
 |b::r,a,h=>by
  obtain⟨h1,h2⟩:=jF.1 h;have h3:=h1 b (eN ..);obtain⟨k1,k2⟩:=zt h2;grind[oV]
theorem FY{g:Int→Bool}{C:List Int}(hg:∀x y,(∀z,z∈C→z≤x∨y≤z)→∀d,x≤d→d<y→g d=g x):
  ∀(r:List Int)(a:Int),(a::r).Pairwise (fun a b=>a<b)→(∀z,z∈C→z≤a∨z∈r)→∀d,memB (kJ g (a::r)) d=(decide (a≤d∧d<oV a r)&&g d)
 |[],a,_,_,d=>by
  have:decide (a≤d∧d<oV a [])=false:=by grind[oV]
  rw[this];rfl
 | b::r,a,hp,hC,d=>by
  obtain⟨h1,h2⟩:=jF.1 hp;have hab:=h1 b (eN ..);obtain⟨hb2,h3⟩:=jF.1 h2;have hl:=(zt h2).1;have ih:=FY hg r b h2 (fun z hz=>by grind) d;have hc:∀d,a≤d→d<b→g d=g a:=hg a b fun z hz=>by grind
  have e0:memB (kJ g (a::b::r)) d=((g a&&decide (a≤d∧d<b))||memB (kJ g (b::r)) d):=by
   rw[FV];cases g a with
   |true=>rw[eh,Bool.true_and]
   |false=>simp_all
  rw[e0,ih,show oV a (b::r)=oV b r from rfl];grind
def ie(A:List PSpan):List Int:=bZ (c8 (pa A))
theorem Lf(A:List PSpan):(ie A).Pairwise (fun a b=>a<b)∧∀z,z∈ie A↔z∈pa A:=by
 obtain⟨h1,h2⟩:=Ae (tj (pa A));exact⟨h1,fun z=>(h2 z).trans (iC (pa A)).mem_iff⟩
theorem za{A l:List PSpan}(hl:∀s,s∈l→s∈A){x y:Int}(hz:∀z,z∈ie A→z≤x∨y≤z){d:Int}(h1:x≤d)(h2:d<y):memB l d=memB l x:=by
 have key:∀s,s∈l→((s.from_≤d∧d<s.to)↔(s.from_≤x∧x<s.to)):=fun s hs=>by
  obtain⟨k1,k2⟩:=GN (hl s hs);grind[Lf]
 rw[C8,je,je];grind
theorem L9{op:Bool→Bool→Bool}(h0:op false false=false)(A B:List PSpan)(d:Int):memB (kJ (fun d=>op (memB A d) (memB B d)) (ie (A++B))) d=op (memB A d) (memB B d):=by
 obtain⟨h1,h2⟩:=Lf (A++B);have out:∀(z1 z2:Int),(∀z,z∈ie (A++B)→z1≤z∧z≤z2)→¬(z1≤d∧d<z2)→op (memB A d) (memB B d)=false:=fun z1 z2 hz hd=>by
  have no:∀l:List PSpan,(∀s,s∈l→s∈A++B)→memB l d=false:=fun l hl=>by
   cases q:memB l d with
   |false=>rfl
   |true=>
    obtain⟨s,k1,k2,k3⟩:=je.1 q;obtain⟨k4,k5⟩:=GN (hl s k1);grind
  simp_all
 cases hC:ie (A++B)with
 |nil=>
  rw[kJ,mL];exact(out (d+1) d (fun z hz=>by grind) (by omega)).symm
 | cons a r=>
  rw[hC]at h1;have hl:=zt h1;have hp:=(jF.1 h1).1;rw[FY (C:=ie (A++B)) (fun x y hz d h3 h4=>by
   show op (memB A d) (memB B d)=op (memB A x) (memB B x)
   rw[za (A:=A++B) (fun s hs=>Eo _ hs) hz h3 h4,za (A:=A++B) (fun s hs=>Ji _ hs) hz h3 h4]) r a h1 (fun z hz=>by
   grind) d]
  by_cases q:a≤d∧d<oV a r;all_goals grind
theorem Aa(A:List PSpan):(ie A).length≤2*A.length:=by
 have:=xq (c8 (pa A));have h2:=(iC (pa A)).length_eq;grind[kw,ie]
theorem UJ{α:Type}[Inhabited α]{l z:List α}{k:Nat}(h:k<l.length):gD (l++z) k=gD l k:=by grind[gD]
theorem BS{g:Int→Bool}{C:List Int}{x:Nat}(h1:1≤x)(h2:x<C.length):kJ g (C.drop (x-1))=match g (gD C (x-1))with|true=>⟨gD C (x-1),gD C x⟩::kJ g (C.drop (x+1-1))|false=>kJ g (C.drop (x+1-1)):=by grind[rg,FV]
theorem lJ{g:Int→Bool}{C:List Int}{x:Nat}(h1:1≤x)(h2:C.length≤x):kJ g (C.drop (x-1))=[]:=by
 have:(C.drop (x-1)).length≤1:=by simp_all
 match C.drop (x-1),this with
 |[],_=>rfl
 |[_],_=>rfl
 |_::_::_,h=>simp_all
noncomputable def sV(op:Bool→Bool→Bool)(a b:List PSpan):List PSpan:=nf fun d=>op (memB a d) (memB b d)
theorem kM(l:List PSpan):NrmS (iX l):=zx _
theorem Cq(l:List PSpan)(d:Int):memB (iX l) d=(OY d&&memB l d):=Ih _ d
theorem NR{op:Bool→Bool→Bool}(h0:op false false=false){a b A B:List PSpan}(hA:iX a=A)(hB:iX b=B):iX (kJ (fun d=>op (iF A d) (iF B d)) (ie (A++B)))=sV op a b:=by
 have nA:NrmS A:=hA▸kM a;have nB:NrmS B:=hB▸kM b;have e:(fun d=>op (iF A d) (iF B d))=fun d=>op (memB A d) (memB B d):=funext fun d=>by grind[Th]
 rw[e];unfold iX sV;refine P3 fun d hd=>?_
 rw[L9 h0,←hA,←hB,Cq,Cq,hd,Bool.true_and,Bool.true_and]
end Go.Ev
namespace Go.Ev
open Go
section
variable{H:Type}{enc:TypeId×Value→H}{P:Program}{w:World}{base:Nat}{spare:Nat→Bool}{held:Bool}
inductive VL(M:dB):List AV→List Value→Prop
 |nil:VL M [] []
 |cons {x:AV} {v:Value} {xs:List AV} {vs:List Value} (h:VRel (fun _=>none) M x v) (t:VL M xs vs):VL M (x::xs) (v::vs)
theorem VL.append{M:dB}{xs ys:List AV}{a b:List Value}(h:VL M xs a)(k:VL M ys b):VL M (xs++ys) (a++b):=by
 induction h with
 |nil=>grind
 |cons h _ ih=>exact .cons h ih
theorem VL.at_{M:dB}{xs:List AV}{a:List Value}(h:VL M xs a):∀(j:Nat)(y:AV),xs[j]?=some y→∃v,a[j]?=some v∧VRel (fun _=>none) M y v:=by
 induction h with
 |nil=>simp_all
 |cons h _ ih=>grind
theorem VL.one{M:dB}{x:AV}{cs:List Value}(h:VL M [x] cs):∃v,cs=[v]∧VRel (fun _=>none) M x v:=by
 cases h with
 |cons h t=>cases t;simp_all
def Wt(P:Program)(t:TypeId)(d:DataW H):Prop:=∀m,m∈d.weights P t→m≤reachBytes
theorem qV{e:TypeId}{d:DataW H}{m:Nat}(hm:m∈d.weights P e):∀{l:List (DataW H)},d∈l→m∈DataW.weightsAll P e l
 |[],h=>by grind
 |a::r,h=>by
  unfold DataW.weightsAll;rcases fC.1 h with rfl|h
  ·simp_all
  ·exact Ji _ (qV hm h)
theorem lL{t:TypeId}{d:DataW H}{m:Nat}(hm:m∈d.weights P t):∀{ts:List TypeId}{l:List (DataW H)}(i:Nat),ts[i]?=some t→l[i]?=some d→m∈DataW.weightsEach P ts l
 |[],_,i,h,_=>by simp_all
 |_::_,[],i,_,h=>by simp_all
 |u::ts,a::r,i,h1,h2=>by
  unfold DataW.weightsEach;cases i with
  |zero=>simp_all
  |succ i=>exact Ji _ (lL hm i (by simp_all) (by simp_all))
def D7(P:Program):List Field→Nat→Nat→Bool
 |[],off,n=>Nat.beq off n
 |f::r,off,n=>Nat.beq f.offset off&&D7 P r (off+P.cellsOf f.type) n
def VF(M:dB)(P:Program)(cs:List Value):List Field→List (List AV)→Prop
 |[],[]=>True
 |f::fs,xs::xss=>VL M xs ((cs.drop f.offset).take (P.cellsOf f.type))∧VF M P cs fs xss
 |_,_=>False
theorem VF.vl{M:dB}{cs:List Value}:∀{fs:List Field}{xss:List (List AV)}{off:Nat},D7 P fs off cs.length=true→VF M P cs fs xss→VL M xss.flatten (cs.drop off)
 |[],[],off,h,_=>by
  have:=pp h;rw[this,List.drop_length];exact .nil
 |[],_::_,_,_,h=>h.elim
 |_::_,[],_,_,h=>h.elim
 |f::fs,xs::xss,off,h,k=>by
  unfold D7 at h;rw[bx]at h;have ho:=pp h.1;have h1:=k.1;rw[ho]at h1;have h2:=VF.vl h.2 k.2;have e:cs.drop off=(cs.drop off).take (P.cellsOf f.type)++cs.drop (off+P.cellsOf f.type):=by grind[List.drop_drop,List.take_append_drop]
  rw[List.flatten_cons,e];exact h1.append h2
def TF(enc:TypeId×Value→H)(P:Program)(w:World)(base:Nat)(spare:Nat→Bool)(held:Bool)(n:Nat)(cs:List Value):List Field→Prop
 |[]=>True
 |f::fs=>(∃d p,DataW.trod enc P w base spare held n f.type ((cs.drop f.offset).take (P.cellsOf f.type))=some (d,p)∧Wt P f.type d)∧TF enc P w base spare held n cs fs
theorem Vu{n:Nat}{cs:List Value}:∀(fs:List Field),(∀(i:Nat)(f:Field),fs[i]?=some f→∃d p,DataW.trod enc P w base spare held n f.type ((cs.drop f.offset).take (P.cellsOf f.type))=some (d,p)∧Wt P f.type d)→TF enc P w base spare held n cs fs
 |[],_=>trivial
 |f::fs,h=>⟨h 0 f rfl,Vu fs fun i g hg=>h (i+1) g (by simp_all)⟩
theorem iT{t:TypeId}{fs:Array Field}{fuel:Nat}{cs:List Value}{d:DataW H}{p:List MemPlace}(hu:P.underlying t=some (.struct fs))(hc:D7 P fs.toList 0 (P.cellsOf t)=true)
  (h:DataW.trod enc P w base spare held fuel t cs=some (d,p))(hw:Wt P t d):
  ∃n,fuel=n+1∧TF enc P w base spare held n cs fs.toList∧∀xss,VF (cq w) P cs fs.toList xss→VL (cq w) xss.flatten cs:=by
 obtain⟨xs,n,rfl,h1,h2,h3,h4⟩:=DataW.trod_struct hu h;simp only[tX]at h1;obtain⟨rfl,_⟩:=h1;refine⟨n,rfl,Vu _ fun i f hf=>?_,fun xss hx=>?_⟩
 ·have hf':fs[i]?=some f:=by simp_all
  have hi:i<xs.length:=by grind
  have e:=h4 i f hf';rw[lI hi]at e;refine⟨xs[i].1,xs[i].2,e,fun m hm=>hw m ?_⟩;unfold DataW.weights;rw[hu];exact lL hm i (by simp_all) (by grind)
 ·have:=VF.vl (off:=0) (by simp_all) hx;simp_all
theorem gi{t:TypeId}{fuel:Nat}{cs:List Value}{d:DataW H}{p:List MemPlace}(hu:P.underlying t=some (.int .i64))(h:DataW.trod enc P w base spare held fuel t cs=some (d,p)):∃x,VL (cq w) [.int .i64 x] cs:=by
 obtain⟨x,rfl,_⟩:=DataW.trod_int hu h;exact⟨x,.cons (.int _ _) .nil⟩
theorem nF{t:TypeId}{fuel:Nat}{cs:List Value}{d:DataW H}{p:List MemPlace}(hu:P.underlying t=some .string)(h:DataW.trod enc P w base spare held fuel t cs=some (d,p)):∃s,VL (cq w) [.str s] cs:=by
 obtain⟨⟨⟨s⟩⟩,rfl,_⟩:=DataW.trod_string hu h;exact⟨s,.cons (.str _) .nil⟩
theorem KM{α:Type}{Q:Nat→α→Prop}:∀(n:Nat),(∀i,i<n→∃x,Q i x)→∃l:List α,l.length=n∧∀i x,l[i]?=some x→Q i x
 |0,_=>⟨[],rfl,fun i x h=>by simp_all⟩
 |n+1,h=>by
  obtain⟨l,h1,h2⟩:=KM n fun i hi=>h i (by omega)
  obtain⟨y,hy⟩:=h n (by omega);refine⟨l++[y],by simp_all,fun i x hx=>?_⟩;grind
theorem ZZ{x:AV}(h:x.cells.all cL=true):Sc x:=fun y hy=>nq.1 h y hy
theorem H8{α:Type}(el:α→AV)(fit:α→Prop){t e:TypeId}{fuel:Nat}{cs:List Value}{d:DataW H}{p:List MemPlace}(hu:P.underlying t=some (.slice e))(hsz:Nat.blt 0 (P.cellsOf e)=true)(hby:Nat.blt 0 (P.bytesOf e)=true)
  (hel:∀x,(el x).cells.length=P.cellsOf e)(hsc:∀x,(el x).cells.all cL=true)(htop:∀x,(el x).top=0)
  (hrec:∀m,m<fuel→∀cs d p,DataW.trod enc P w base spare held m e cs=some (d,p)→Wt P e d→∃x,fit x∧VL (cq w) (el x).cells cs)
  (h:DataW.trod enc P w base spare held fuel t cs=some (d,p))(hw:Wt P t d):
  ∃l:List α,l.length<2^47∧(∀x,x∈l→fit x)∧VL (cq w) [.ls (l.map el)] cs:=by
 rw[dr]at hsz hby;simp only[decide_eq_true_eq]at hsz hby;rcases DataW.trod_slice hu h with⟨rfl,_⟩|⟨a,len,cap,elems,rest,n,rfl,rfl,h1,h2,h3,h4,h5,h6,_,_⟩
 ·exact⟨[],Nat.two_pow_pos 47,fun x h=>absurd h (List.not_mem_nil),.cons .lsn .nil⟩
 ·simp only[tX]at h1;obtain⟨rfl,_⟩:=h1;have hwl:len<2^47:=by
   have:=hw ((elems.length+rest.length)*P.bytesOf e) (by grind[DataW.weights]);have h7:elems.length≤(elems.length+rest.length)*P.bytesOf e:=bR (Nat.le_add_right _ _) (Nat.le_mul_of_pos_right _ hby);have:elems.length≤reachBytes:=bR h7 this;rw[h5]at this;exact nY this (by decide)
  have el0:∀i,i<len→∃x,fit x∧∃cs:List Value,cs.length=P.cellsOf e∧(∀j,j<P.cellsOf e→w.cell? ((a.add (i*P.cellsOf e)).add j)=cs[j]?)∧VL (cq w) (el x).cells cs:=by
   intro i hi;have k5:=h6 i hi;have hi':i<elems.length:=by omega
   rw[lI hi']at k5;simp only[Option.bind_eq_some_iff]at k5;obtain⟨cs,c1,c2⟩:=k5;obtain⟨z1,z2⟩:=CO c1;obtain⟨x,f1,f2⟩:=hrec n (by omega) cs elems[i].1 elems[i].2 c2 (fun m hm=>hw m (by
    unfold DataW.weights;rw[hu];exact fQ _ (Eo _ (qV hm (ki.2 ⟨elems[i],C7 hi',rfl⟩)))))
   grind
  obtain⟨l,q1,q2⟩:=KM len el0;refine⟨l,by omega,fun x hx=>?_,.cons ?_ .nil⟩
  ·obtain⟨i,hi⟩:=EB.1 hx;grind
  ·have q1':(l.map el).length=len:=by simp_all
   generalize hys:l.map el=ys at *;have q3:∀i y,ys[i]?=some y→∃cs:List Value,cs.length=P.cellsOf e∧(∀j,j<P.cellsOf e→w.cell? ((a.add (i*P.cellsOf e)).add j)=cs[j]?)∧VL (cq w) y.cells cs:=by grind
   have q4:∀y,y∈ys→y.cells.length=P.cellsOf e∧Sc y:=by grind[ZZ]
   have q5:aq ys=0:=by grind[aX]
   have addadd:∀i j:Nat,a.spot=none→(a.add i).add j=⟨a.block,a.off+i+j,none⟩:=by
    intro i j hs;obtain⟨blk,off,spot⟩:=a;grind[Addr.add]
   have spot:ys≠[]→a.spot=none:=by
    intro hne;obtain⟨x,hx⟩:∃x,ys[0]?=some x:=by
     cases ys with
     |nil=>simp_all
     |cons x r=>exact⟨x,rfl⟩
    grind[rm,Addr.add]
   have cell:∀(i j:Nat)(x:AV),ys[i]?=some x→j<P.cellsOf e→∃c v,cq w a.block=some c∧c[a.off+i*P.cellsOf e+j]?=some v∧∀y,x.cells[j]?=some y→VRel (fun _=>none) (cq w) y v:=by
    intro i j x hx hj;obtain⟨cs,c1,c2,c3⟩:=q3 i x hx;have:=c2 j hj;rw[lI (by omega),addadd _ _ (spot (by grind))]at this;obtain⟨_,c,m1,m2⟩:=rm this;refine⟨c,_,m1,m2,fun y hy=>?_⟩;obtain⟨v,g1,g2⟩:=c3.at_ j y hy;simp_all
   refine .lsp ?_ q5;by_cases hne:ys=[]
   ·subst hne;simp at q1';subst q1';exact .ps (sz:=P.cellsOf e) (c:=#[]) (by simp) (fun h=>by grind) (fun h=>absurd rfl h) (fun x h=>by simp_all) (fun i x j y h=>by simp_all)
   ·have hlen:0<ys.length:=pt.2 hne;obtain⟨x0,hx0⟩:∃x,ys[ys.length-1]?=some x:=⟨ys[ys.length-1],by simp⟩
    obtain⟨c,v0,m1,m2,_⟩:=cell (ys.length-1) (P.cellsOf e-1) x0 hx0 (by omega);have hc:=(wJ.1 m2).1;have hfit:a.off+ys.length*P.cellsOf e≤c.size:=by
     have h1:(ys.length-1)*P.cellsOf e+P.cellsOf e=ys.length*P.cellsOf e:=by rw[←qK];grind
     omega
    have:=VRel.ps (pl:=fun _=>none) (M:=cq w) (xs:=ys) (tight:=false) (a:=a) (cap:=cap) (sz:=P.cellsOf e) (c:=c) (by omega) (fun h=>by grind) (fun _=>⟨spot hne,m1,hfit,hsz⟩) q4
     (fun i x j y hx hy=>by
      obtain⟨r1,_⟩:=q4 x (bi hx);have hj:j<P.cellsOf e:=by grind
      obtain⟨c',v,n1,n2,n3⟩:=cell i j x hx hj;simp_all)
    simp_all
theorem lz{α:Type}(el:α→AV)(fit:α→Prop){t e:TypeId}{fuel:Nat}{cs:List Value}{d:DataW H}{p:List MemPlace}(hu:P.underlying t=some (.slice e))(hsz:Nat.blt 0 (P.cellsOf e)=true)(hby:Nat.blt 0 (P.bytesOf e)=true)
  (hel:∀x,(el x).cells.length=P.cellsOf e)(hsc:∀x,(el x).cells.all cL=true)(htop:∀x,(el x).top=0)
  (hrec:∀m,m<fuel→∀cs d p,DataW.trod enc P w base spare held m e cs=some (d,p)→Wt P e d→∃x,fit x∧VL (cq w) (el x).cells cs)
  (h:DataW.trod enc P w base spare held fuel t cs=some (d,p))(hw:Wt P t d):
  ∃l:List α,l.length<2^60∧(∀x,x∈l→fit x)∧VL (cq w) [.ls (l.map el)] cs:=by
 have⟨l,h1,h2⟩:=H8 el fit hu hsz hby hel hsc htop hrec h hw;grind
end
end Go.Ev
namespace Go.Ev
open Go
structure PPair where
 a:Int
 b:Int
deriving Inhabited,DecidableEq
structure PRef where
 act:Int
 item:Int
deriving Inhabited,DecidableEq
def ny(u:TUnit):List PWord:=u.head++u.words
mutual
def m8:TUnit→List PWord
 |⟨_,_,_,_,_,h,w,ks⟩=>(h++w)++ku ks
def ku:List TUnit→List PWord
 |[]=>[]
 |k::r=>m8 k++ku r
end
theorem LB(u:TUnit):m8 u=ny u++ku u.kids:=by obtain⟨a,b,c,d,e,h,w,ks⟩:=u;rw[m8];rfl
theorem C5:ku []=[]:=by rw[ku]
theorem s8(k:TUnit)(r:List TUnit):ku (k::r)=m8 k++ku r:=by rw[ku]
theorem ry{k:Int}:∀{m:List (Int×Int)},gT k m=none→¬k∈m.map (·.1)
 |[],_=>by simp
 | (i,x)::r,h=>by
  simp only[gT]at h;cases e:ah k i with
  |true=>grind
  |false=>
   rw[e]at h;have:=ry h;grind[Lw]
section
variable{u w':TUnit}{ws:List PWord}{w:PWord}{r:List PWord}{ks:List TUnit}{m x:List (Int×Int)}{c B:Int}
end
theorem VRel.ls0{pl:Pl}{M:dB}{x:Value}(h:VRel pl M (.ls []) x):VRel pl M .nils x∨VRel pl M (.ps [] false) x:=by
 cases h with
 |lsn=>exact .inl .nils
 |lsp h _=>simp_all
theorem Ei{P:Program}{G:eB}{f:FuncId}{a b c:List AV}{h:AHeap}{Ψ:AV→AHeap→Prop}(hs:∀pl M vs,VRels pl M c vs→VRels pl M a vs∨VRels pl M b vs)(h1:aH P G f a h Ψ)(h2:aH P G f b h Ψ):aH P G f c h Ψ:=fun pl M w vs hg hr hv=>(hs pl M vs hv).elim (h1 pl M w vs hg hr) (h2 pl M w vs hg hr)
theorem VRels.first{pl:Pl}{M:dB}{x y z:AV}{r:List AV}{vs:Array Value}(h:VRels pl M (z::r) vs)(hs:∀v,VRel pl M z v→VRel pl M x v∨VRel pl M y v):VRels pl M (x::r) vs∨VRels pl M (y::r) vs:=by
 obtain⟨h1,h2⟩:=h;have lift:∀u,VRel pl M u (vs.getD 0 undef)→VRels pl M (u::r) vs:=fun u hu=>⟨h1,fun j y hj=>by
  cases j with
  |zero=>grind
  |succ j=>simp_all⟩
 exact(hs _ (h2 0 z rfl)).imp (lift x) (lift y)
end Go.Ev
namespace Go.Ev
open Go
theorem aL{n b m:Nat}(h1:n≤m)(h2:m≤2^40)(h3:m*b≤2^40):small n b=true:=by
 unfold small;have h4:n*b≤m*b:=eu b h1;grind[Nat.ble_eq_true_of_le]
def YW(d:Int):List Int→List Int
 |[]=>[d]
 |x::r=>bif aC x d then x::YW d r else bif ah x d then x::r else d::x::r
def fy(ws:List PWord)(l:List Int):List Int:=ws.foldl (fun l w=>YW w.act l) l
end Go.Ev
namespace Go.Ev
open Go
def S2{α:Type}:Result α→World
 | .ok _ w=>w
 | .halt _ w=>w
def gW:GStep→World
 | .go _ w _=>w
 | .comm _ _ _ _ w _=>w
 | .spawn _ _ w _=>w
 | .count _ w _=>w
 | .timer _ _ w _=>w
 | .alone _ _ w _=>w
 | .newcoro _ _ _ w _=>w
 | .coroswitch _ _ _ w _=>w
 | .collect _ w _=>w
 | .watch _ w _=>w
 | .ended _ w _=>w
theorem lg(es:Array Event)(g:GStep):gW (GStep.after es g)=gW g:=by cases g<;>rfl
theorem Jy{α:Type}:∀(q:Ask α)(w:World),w.drawn≤(w.ask q).2.drawn
 | .done a,w=>ao _
 | .ask what range k,w=>by
  rw[World.ask];split
  ·exact Jy (k 0) w
  ·exact bR (mh _) (Jy _ {w with drawn:=w.drawn+1})
theorem OO(w:World)(c:Sys):w.drawn≤(w.sys c).2.drawn:=by
 unfold World.sys;have h:=Jy (Kernel.perform c w.os) w;grind
theorem xf{p:Program}{w w':World}{at_:Addr}{u:TypeId}{k:Addr}{v:Value}{b:Bool}{l:List Addr}(h:w.viewStore p at_ u k v b=.ok (w',l)):w'.drawn=w.drawn:=by
 unfold World.viewStore at h;simp only[bind,Except.bind,pure,Except.pure]at h
 repeat' split at h
 all_goals first|cases h;done|(injection h with h;injection h with h1 h2;rw[←h1])
theorem AJ{p:Program}{w w':World}{a:Addr}{v:Value}{b:Bool}{l:List Addr}(h:w.farStore p a v b=.ok (w',l)):w'.drawn=w.drawn:=by
 unfold World.farStore at h
 repeat' split at h
 all_goals first|cases h;done|grind[xf]
theorem DE(w:World)(a:Addr)(n:Nat):(w.freeze a n).drawn=w.drawn:=by unfold World.freeze;grind
theorem PU(p:Program){α:Type}(s:Sem α):∀(w:World),w.drawn≤(S2 (s.run p w)).drawn:=by
 induction s with
 |pure a=>exact fun w=>ao _
 |load m a k ih=>
  intro w;simp only[Sem.run]
  repeat' split
  all_goals first|exact ih _ _|exact ao _
 | store m a v k ih=>
  intro w;cases v
  all_goals simp only[Sem.run]
  all_goals first
   |exact ao _
   |((repeat' split);all_goals first|exact ao _|exact ih (w.setCell _ _)|(rename_i e;refine bR ?_ (ih _);rw[AJ e];exact ao _))
 |new o k ih=>grind[Sem.run]
 |shape r k ih=>grind[Sem.run]
 |freeze a n k ih=>intro w;simp only[Sem.run];refine bR ?_ (ih _);simp_all[DE]
 |frozen a k ih=>grind[Sem.run]
 |getObj r k ih=>
  intro w;simp only[Sem.run]
  repeat' split
  all_goals first|exact ih _ _|exact ao _
 |setObj r o k ih=>
  intro w;simp only[Sem.run]
  repeat' split
  all_goals first|exact ih {w with heap:=w.heap.setIfInBounds r o}|exact ao _
 |choose q k ih=>
  intro w;simp only[Sem.run];grind
 |sys c k ih=>grind[Sem.run,OO]
 |program k ih=>grind[Sem.run]
 |mark m k ih=>grind[Sem.run]
 |halt h=>exact fun w=>ao _
theorem cF{p:Program}{α:Type}{s:Sem α}{w:World}{r:Result α}(h:s.run p w=r):w.drawn≤(S2 r).drawn:=h▸PU p s w
theorem SS{p:Program}{α:Type}{s:Sem α}{w:World}{es es':Array Event}{r:Result α}(h:s.runT p w es=(r,es')):w.drawn≤(S2 r).drawn:=by
 have:=Sem.runT_fst p s w es;rw[h]at this;exact cF this.symm
theorem JX(w:World)(fd:Nat)(text:ByteArray)(o:Outcome):w.drawn≤(gW (endWith w fd text o)).drawn:=by
 unfold endWith;simp only[];have h:=OO w (.write fd text);split;all_goals (rename_i e;rw[e]at h)
 all_goals repeat' split
 all_goals exact h
theorem xJ(fr:Frame)(m:String)(w:World):w.drawn≤(gW (endThrow fr m w)).drawn:=ao _
theorem qF(p:Program)(fr:Frame)(v:Value)(w:World):w.drawn≤(gW (endPrinting p fr v w)).drawn:=by
 unfold endPrinting;simp only[]
 repeat' split
 all_goals exact ao _
theorem xK(p:Program)(fr:Frame)(cs:List Frame)(d:Option Dying)(m:String)(w:World):w.drawn≤(gW (endFatal p fr cs d m w)).drawn:=by
 unfold endFatal;simp only[];split;all_goals (rename_i e;exact cF e)
theorem HE(p:Program)(fr:Frame)(d:Dying)(f:Fatal)(w:World):w.drawn≤(gW (writeOn p fr d f w)).drawn:=by
 unfold writeOn;split
 ·exact ao _
 ·simp only[];split;all_goals (rename_i e;exact SS e)
theorem W8(p:Program)(fr:Frame)(d:Dying)(w:World):w.drawn≤(gW (die p fr d w)).drawn:=by
 unfold die;split
 ·grind[HE]
 ·split
  ·split
   ·exact ao _
   grind[JX]
  ·simp only[];split
   ·exact ao _
   ·split;all_goals (rename_i e;exact cF e)
   ·rw[lg];split;all_goals first|(rename_i e;exact cF ((Sem.runT_fst ..).symm.trans e))|skip
    ·rename_i e;exact bR (cF ((Sem.runT_fst ..).symm.trans e)) (qF ..)
    ·exact ao _
   ·exact ao _
theorem qH(p:Program)(main:Bool)(fr:Frame)(cs:List Frame)(d:Option Dying)(v:Value)(w:World):w.drawn≤(gW (doReturn p main fr cs d v w)).drawn:=by
 unfold doReturn
 repeat' split
 all_goals exact ao _
theorem sM{c:Prop}[Decidable c]{a b:GStep}{n:Nat}(h1:n≤(gW a).drawn)(h2:n≤(gW b).drawn):n≤(gW (if c then a else b)).drawn:=by grind
theorem xp(p:Program)(fr:Frame)(cs:List Frame)(dy:Option Dying)(d:Deferred)(w:World):w.drawn≤(gW (callDeferred p fr cs dy d w)).drawn:=by
 unfold callDeferred;refine sM ?_ ?_
 ·exact ao _
 ·simp only[];rw[lg];split;all_goals (rename_i e;have h:=cF ((Sem.runT_fst ..).symm.trans e))
  all_goals first|exact h|exact bR h (xK ..)|((repeat' split)<;>exact h)
theorem LP(p:Program)(main:Bool)(fr:Frame)(cs:List Frame)(dy:Option Dying)(w:World):w.drawn≤(gW (unwind p main fr cs dy w)).drawn:=by
 unfold unwind;split
 ·simp only[];rw[lg];split;all_goals (rename_i e;exact cF ((Sem.runT_fst ..).symm.trans e))
 ·grind[xp]
 ·split
  ·exact ao _
  ·split
   ·exact ao _
   ·split
    ·exact ao _
    ·split
     ·split
      ·exact ao _
      ·split;all_goals (rename_i e;exact cF e)
     ·split
      ·grind[qF]
      ·exact ao _
  ·split
   ·grind[qH]
   ·simp only[];rw[lg];split;all_goals (rename_i e;have h:=cF ((Sem.runT_fst ..).symm.trans e))
    all_goals first|exact h|exact bR h (qH ..)
theorem Rk(p:Program)(fr:Frame)(cs:List Frame)(dy:Option Dying)(g:Nat)(w:World):w.drawn≤(gW (early p fr cs dy g w)).drawn:=by
 unfold early;simp only[]
 repeat' split
 all_goals first|exact ao _|(rename_i e;exact cF e)|(rename_i e _;exact cF e)|(rename_i e _ _;exact cF e)|(rename_i e _ _ _ _;exact cF e)
theorem uL(p:Program)(listen:Bool)(fr:Frame)(cs:List Frame)(dy:Option Dying)(s:Sem Next)(w:World):w.drawn≤(gW (stepG.apply p listen fr cs dy s w)).drawn:=by
 unfold stepG.apply;simp only[];rw[lg];have h0:w.drawn≤(S2 (if listen=true then Sem.runT p s w #[]else(Sem.run p s w,#[])).fst).drawn:=by
  cases listen
  ·grind[PU]
  ·exact cF (Sem.runT_fst ..).symm
 generalize (if listen=true then Sem.runT p s w #[]else(Sem.run p s w,#[])).fst=r at h0 ⊢;split;all_goals first|exact h0|exact bR h0 (xK ..)|exact bR h0 (Rk ..)|exact bR h0 (xJ ..)|skip
 all_goals repeat' split
 all_goals first|exact h0|exact bR h0 (xJ ..)|skip
theorem Tq(p:Program)(listen:Bool)(fr:Frame)(cs:List Frame)(dy:Option Dying)(w:World):w.drawn≤(gW (stepG.oper p listen fr cs dy w)).drawn:=by
 unfold stepG.oper;split
 ·exact ao _
 ·split;all_goals exact uL ..
theorem Ua(p:Program)(main listen:Bool)(fr:Frame)(cs:List Frame)(dy:Option Dying)(w:World):w.drawn≤(gW (stepG.exec p main listen fr cs dy w)).drawn:=by
 have lv:∀(l:Nat)(jump:Option Code),w.drawn≤(gW (GStep.after (seen p fr.fn ((Instr.endRound l jump).runT p w #[]).snd) (match((Instr.endRound l jump).runT p w #[]).fst with| .ok v w=>doReturn p main fr cs dy v w| .halt _ w=>.ended (.stuck "range over a function: no such loop" (fr.pos p)) w))).drawn :=by
  intro l jump;rw[lg];have h0:=cF (Sem.runT_fst p (Instr.endRound l jump) w #[]).symm;split;all_goals (rename_i e;rw[e]at h0)
  ·exact bR h0 (qH ..)
  ·exact h0
 unfold stepG.exec;simp only[];split;all_goals first|exact ao _|exact uL .. |skip
 ·split
  ·exact sM (ao _) (ao _)
  grind
 ·split
  ·exact sM (ao _) (ao _)
  grind
 ·split<;>exact ao _
 ·rename_i id k _;cases exitTo id k with
  |none=>simp only[Option.elim];split;exact sM (ao _) (ao _);grind
  |some k'=>exact ao _
 ·rename_i id k _;cases gotoIn id k with
  |none=>simp only[Option.elim];split;exact sM (ao _) (ao _);grind
  |some k'=>exact ao _
 ·rw[lg];split
  ·rename_i e;exact bR (cF ((Sem.runT_fst ..).symm.trans e)) (uL ..)
  ·rename_i e;exact cF ((Sem.runT_fst ..).symm.trans e)
 ·rw[lg];split<;>rename_i e<;>exact cF ((Sem.runT_fst ..).symm.trans e)
 ·rename_i row _ _ _;cases Extern.next row with
  |none=>exact ao _
  |some e=>grind[uL]
 ·refine sM (ao _) ?_;split<;>rename_i e<;>exact cF e
 ·exact sM (Tq ..) (ao _)
theorem O2(p:Program)(main listen:Bool)(g:Goroutine)(w:World):w.drawn≤(gW (stepG p main g w listen)).drawn:=by
 unfold stepG;grind[W8,Ua,LP]
def sD(n:Nat):Stepped→Prop
 | .next m=>n≤m.world.drawn
 | .ended _ _=>True
theorem sD.trans{n k:Nat}{s:Stepped}(h:n≤k)(g:sD k s):sD n s:=by
 cases s with
 |next m=>exact bR h g
 |ended o w=>trivial
theorem Qy{c:Prop}[Decidable c]{a b:Stepped}{n:Nat}(h1:sD n a)(h2:sD n b):sD n (if c then a else b):=by grind
theorem KL(p:Program)(gs:Array Goroutine)(rest:Rest)(w:World):sD w.drawn (look p gs rest w):=by
 unfold look;simp only[];split
 ·refine Qy trivial ?_;split
  ·trivial
  ·split<;>rename_i e<;>first|exact cF e|trivial
 ·trivial
theorem xe{rest:Rest}{cases:Array CommCase}{w w':World}(h:waitingAt rest cases w=some w'):w'.drawn=w.drawn:=by
 unfold waitingAt at h
 repeat' split at h
 all_goals first|(cases h;done)|(cases h;rfl)
theorem Ds{c:Prop}[Decidable c]{a b:Stepped×Array MemOp}{n:Nat}(h1:sD n a.1)(h2:sD n b.1):sD n (if c then a else b).1:=by grind
theorem Af(p:Program)(rest:Rest)(gs:Array Goroutine)(i:Nat)(g:Goroutine)(cs:Array CommCase)(bl:Bool)(sh:CommShape)(w:World):sD w.drawn (communicate p rest gs i g cs bl sh w).1:=by
 unfold communicate;simp only[];refine Ds trivial (Ds (Ds ?_ (ao _)) ?_)
 ·split
  ·rename_i e;exact rN (xe e).symm
  ·trivial
 ·split
  ·trivial
  ·rename_i w1 e;have h:w.drawn≤w1.drawn:=cF e;clear e;split
   ·split
    ·rename_i e;exact bR h (cF e)
    ·trivial
   ·exact h
   ·exact h
   ·split
    ·exact h
    ·split
     ·rename_i e;exact bR h (cF e)
     ·trivial
   ·exact h
   ·exact h
   ·trivial
theorem PJ(p:Program)(m:Machine)(k:Nat):sD m.world.drawn (serve p m k):=by
 unfold serve;split
 ·trivial
 ·exact ao _
 ·simp only[];split
  ·trivial
  ·exact ao _
theorem A5{m m':Machine}{op:TimerOp}{v:Value}(h:timerOp m op=.ok (v,m')):m'.world.drawn=m.world.drawn:=by
 have rt:∀(m:Machine)(k:Nat)(t:Timer)(a b:Nat),(retime m k t a b).2.world.drawn=m.world.drawn:=by
  intro m k t a b;unfold retime drain;grind
 cases op with
 |new t=>
  simp only[timerOp]at h
  repeat' split at h
  all_goals first|(cases h;done)|(cases h;rfl)
 |stop var=>
  simp only[timerOp,timerOp.named]at h;grind
 | reset var a b=>
  simp only[timerOp,timerOp.named,timerOp.opened]at h;split at h
  ·rename_i e;have e2:∀m2:Machine,(if waitedFor m var=true then match Kernel.withPoller m.world.os with| .ok os=>some {m with world:={m.world with os}}| .error _=>none else some m)=some m2→m2.world.drawn=m.world.drawn:=by
    intro m2 e
    repeat' split at e
    all_goals first|(cases e;done)|(cases e;rfl)
   grind
  ·grind
 |deadline a b c d=>simp only[timerOp]at h;cases h;rfl
theorem SR(p:Program)(m:Machine)(i:Nat)(b:Bool):sD m.world.drawn (runT p m i b).1:=by
 unfold runT;simp only[];have h:=O2 p (i==0) b (m.gs.swapAt! i {(default:Goroutine)with status:=.finished}).1 m.world;generalize stepG p (i==0) (m.gs.swapAt! i {(default:Goroutine)with status:=.finished}).1 m.world b=s at h ⊢;cases s
 all_goals simp only[]
 all_goals try exact h
 all_goals try trivial
 ·exact sD.trans h (Af ..)
 ·exact Qy trivial h
 ·split
  ·rename_i e;exact bR h (rN (A5 e).symm)
  ·split
   ·rename_i e;cases e;exact h
   ·trivial
  ·trivial
  ·trivial
 ·split
  ·exact h
  ·split
   ·rename_i e;cases e;exact h
   ·trivial
  ·trivial
 ·exact sD.trans h (KL ..)
def OK(n:Nat):Move→Prop
 | .goroutine m _=>n≤m.world.drawn
 | .machine s _=>sD n s
theorem OK.trans{n k:Nat}{s:Move}(h:n≤k)(g:OK k s):OK n s:=by
 cases s with
 |goroutine m i=>exact bR h g
 |machine s o=>exact sD.trans h g
theorem AA(p:Program)(m:Machine):OK m.world.drawn (askOn p m):=by
 have pick:∀(m:Machine)(rs:List Nat),OK m.world.drawn (match(choose (.sched rs.length)).run p m.world with
   | .halt _ w=>.machine (.ended (.stuck "sched" "") w)
   | .ok k world=>
    if rs.length≤1 then .goroutine {m with world} (rs.getD k 0)else
    match(choose (.extern "sched.slice" 65536)).run p world with
    | .halt _ w=>.machine (.ended (.stuck "sched.slice" "") w)
    | .ok n world=>.goroutine {m with world,rest:={m.rest with slice:=if n=0 then none else some (rs.getD k 0,n)}} (rs.getD k 0)):=by
  intro m rs;split
  ·trivial
  ·rename_i w1 e;have h:m.world.drawn≤w1.drawn:=cF e;split
   ·exact h
   ·split
    ·trivial
    ·rename_i e;exact bR h (cF e)
 unfold askOn;simp only[];split
 ·trivial
 ·rename_i k w1 e;have h:m.world.drawn≤w1.drawn:=cF e;clear e;split
  ·exact sD.trans h (PJ p {m with world:=w1} _)
  ·split
   ·split
    ·exact h
    ·split
     ·exact h
     ·split<;>trivial
   ·split
    ·exact OK.trans h (pick {m with world:=w1} _)
    ·split
     ·trivial
     ·rename_i w2 e;exact OK.trans (bR h (cF e)) (pick {m with world:=w2} _)
     ·rename_i e;exact bR h (cF e)
     ·rename_i k2 w2 e;exact OK.trans (bR h (cF e)) (pick (Machine.advanceTo {m with world:=w2} _) _)
theorem Lt(p:Program)(m:Machine):OK m.world.drawn (ask p m):=by
 unfold ask;split
 ·split
  ·trivial
  ·rename_i w1 e;have h:m.world.drawn≤w1.drawn:=cF e;have h2:=KL p m.gs m.rest w1;split
   ·rename_i e2;rw[e2]at h2;exact OK.trans (bR h h2) (AA ..)
   ·exact sD.trans h h2
  ·rename_i w1 _ e;have h:m.world.drawn≤w1.drawn:=cF e;exact OK.trans h (AA p {m with world:=w1})
 grind[AA]
theorem Ta(p:Program)(m:Machine):OK m.world.drawn (move p m):=by
 unfold move;split
 ·split
  ·exact ao _
  ·trivial
 ·split
  ·split
   ·exact ao _
   ·exact Lt p {m with rest:={m.rest with slice:=none}}
  grind[Lt]
theorem xI(p:Program)(m:Machine):sD m.world.drawn (step p m):=by
 unfold step stepT;have h:=Ta p m;split
 ·rename_i e;rw[e]at h;exact sD.trans h (SR ..)
 ·rename_i e;rw[e]at h;exact h
theorem J5(p:Program):∀(n:Nat)(m m':Machine),runN p n m=.next m'→m.world.drawn≤m'.world.drawn
 |0,m,m',h=>by cases h;omega
 |n+1,m,m',h=>by
  rw[runN]at h;have h1:=xI p m;split at h
  ·rename_i e;rw[e]at h1;exact bR h1 (J5 p n _ _ h)
  simp_all
theorem O1{p:Program}{m m':Machine}(h:Steps p m m'):m.world.drawn≤m'.world.drawn:=by
 obtain⟨n,h⟩:=h;exact J5 p n m m' h
theorem Hk{p:Program}{f:FuncId}{args:Array Value}{w:World}{R:Ending→World→Prop}(h:Calls p f args w R):Calls p f args w fun e w'=>R e w'∧((∃v,e=.returned v)→w.drawn≤w'.drawn):=by
 intro cs;obtain⟨e,w',fr,h1,h2,h3,h4⟩:=h cs;refine⟨e,w',fr,⟨h1,?_⟩,h2,h3,h4⟩
 rintro⟨v,rfl⟩
 exact O1 (m:=lone _ cs w) (m':=lone fr cs w') h2
end Go.Ev
namespace Go.Ev
open Go Go.RowKit
section
variable{P:Program}{G:eB}{pl:Pl}{M:dB}{h:AHeap}{w w':World}{f:FuncId}{args:List AV}{v:AV}
theorem cG.below(hr:cG pl M h w)(hb:Below w.heap.size w w'):cG pl M h w':=
 ⟨hr.dom,fun id p o h1 h2=>by rw[hb.block _ (hr.blk id p h1)];exact hr.obj id p o h1 h2,fun id p h1=>Eu (hr.blk id p h1) hb.size,hr.inj,
  fun b c h1=>by rw[hb.block _ (hr.memLt h1)];exact hr.imm b c h1,hr.sep⟩
theorem dX.below(hb:Below w.heap.size w w')(hd:w.drawn≤w'.drawn):dX h pl M w h pl M w':=⟨nK.refl _,fun _ _ h=>h,fun _ _ h=>h,hb.size,fun b h1 _=>hb.block b h1,fun id p h=>.inl ⟨p,h,rfl⟩,fun _ _ _ h=>h,fun _ _ h _=>h,fun _ _ h=>.inl h,hb.os,hb.tape,hb.output,hd⟩
theorem aM.below(hE:∀vs w,(callFunc f vs).run P w=.ok (.enter f vs) w)
  (hC:∀(pl:Pl)(M:dB)(w:World)(vs:Array Value)(h:AHeap),pn G pl M→cG pl M h w→VRels pl M args vs→∃cv,VRel pl M v cv∧Calls P f vs w fun e w'=>e=.returned cv∧Below w.heap.size w w'):aM P G f args v:=by
 intro h pl M w vs hG hr hv;obtain⟨cv,h1,h2⟩:=hC pl M w vs h hG hr hv;refine .inl ⟨hE _ _,Calls.mono (Hk h2) fun e w' ⟨⟨he,hb⟩,hd⟩=>?_⟩;exact⟨cv,v,h,he,⟨rfl,rfl⟩,pl,M,h1,hr.below hb,dX.below hb (hd ⟨_,he⟩),ao _⟩
theorem aM.calls(hGT:iO G)(hE:∀vs w,(callFunc f vs).run P w=.ok (.enter f vs) w)(hp:aM P G f args v)(hG:pn G pl M)(hr:cG pl M h w){vs:Array Value}(hv:VRels (fun _=>none) M args vs):
  Calls P f vs w fun e w'=>(∃cv pl' M',e=.returned cv∧VRel pl' M' v cv)∧Below w.heap.size w w'∧w.drawn≤w'.drawn:=by
 have r0:cG (fun _=>none) M AHeap.none w:=⟨fun _ _ h=>(by grind),fun _ _ _ h _=>(by grind),fun _ _ h=>(by grind),fun _ _ _ _ h _ _=>(by grind),hr.imm,fun _ _ h=>(by grind)⟩
 rcases hp AHeap.none (fun _=>none) M w vs (hG.none hGT) r0 hv with⟨_,h2⟩|⟨cv,w1,v1,h1,e1,_,_⟩
 ·refine Calls.mono h2 fun e w' ⟨cv,v1,h1,he,⟨e1,e2⟩,pl',M',g1,g2,g3,_⟩=>?_
  subst e1;exact⟨⟨cv,pl',M',he,g1⟩,⟨g3.os,g3.tape,g3.out,g3.size,fun b hb=>g3.kept b hb fun id p h=>(by grind)⟩,g3.drawn⟩
 ·grind
end
end Go.Ev
namespace Go.Ev
open Go
def Qm(lo hi:Int)(c:UInt8):Bool:=aj (aC (.ofNat c.toNat) lo||aC hi (.ofNat c.toNat))
abbrev kc:UInt8→Bool:=Qm 48 57
abbrev XV:UInt8→Bool:=Qm 65 90
def ee(p:UInt8→Bool)(s:aO):Nat:=(s.takeWhile p).length
section
variable{p:UInt8→Bool}{s:aO}
theorem J6:ee p s≤s.length:=(List.takeWhile_prefix p).length_le
theorem J7:∀{s:aO}{i:Nat},i<ee p s→p (gD s i)=true
 |[],i,h=>by simp_all[ee]
 | c::r,i,h=>by
  cases hc:p c with
  |false=>simp_all[ee]
  |true=>
   cases i with
   |zero=>exact hc
   |succ i=>exact J7 (s:=r) (by simp_all[ee])
theorem Fj:∀{s:aO},ee p s<s.length→p (gD s (ee p s))=false
 |[],h=>by simp_all
 | c::r,h=>by
  cases hc:p c with
  |false=>simp[ee,hc,gD]
  |true=>
   have h2:ee p r<r.length:=by simp_all[ee]
   have:=Fj (s:=r) h2;simp_all[ee,gD]
theorem vk:∀{s:aO},ee p s=s.length↔s.all p=true
 |[]=>by simp[ee]
 |c::r=>by
  have ih:ee p r=r.length↔r.all p=true:=vk;cases hc:p c with
  |false=>simp[ee,hc]
  |true=>simp_all[ee]
end
theorem Wn{lo hi:Int}{c:UInt8}(h1:aC hi (.ofNat c.toNat)=true):Qm lo hi c=false:=by grind[Qm]
def kq(s:aO):Bool:=aj (aC (.ofNat (s.take (ee kc s)).length) 1)&&(aj (aC 4 (.ofNat (s.take (ee kc s)).length))&&(aj (ah (.ofNat (gD (s.take (ee kc s)) 0).toNat) 48)&&(aj (aC 3 (.ofNat (s.drop (ee kc s)).length))&&(s.drop (ee kc s)).all XV)))
def rO(s:aO):Bool:=aj (aC (.ofNat s.length) 1)&&(aj (aC 24 (.ofNat s.length))&&s.all (Qm 33 126))
def qa(l:List aO):Bool:=aj (aC 256 (.ofNat l.length))&&l.all rO
theorem Dn:({data:=#[]}:ByteArray).data.toList=([]:List UInt8):=rfl
theorem Rx(s:aO):aC (.ofNat s.length) 1=eJ s []:=by cases s<;>rfl
def dY{α:Type}(p:α→Bool):List α→Nat→Int
 |[],_=> -1
 |x::r,i=>bif p x then Int.ofNat i else dY p r (i+1)
theorem lf{α:Type}(p:α→Bool):∀(l:List α)(i:Nat),aC (dY p l i) 0=aj (l.any p)
 |[],_=>rfl
 |x::r,i=>by
  unfold dY;rw[List.any_cons];cases h:p x with
  |true=>rfl
  |false=>simp_all[lf]
section
variable{α:Type}{p:α→Bool}{l x r:List α}{w:α}{j:Nat}
theorem og(h1:l.drop j=x)(h2:x=w::r):l.length-(w::r).length=j∧l.length-r.length=j+1:=by grind
theorem lV(h1:l.drop j=x)(h2:x=w::r)(h3:dY p l 0=dY p (w::r) (l.length-(w::r).length))(h4:p w=true):dY p l 0=Int.ofNat j:=by rw[h3,(og h1 h2).1,dY,h4];rfl
theorem jf(h1:l.drop j=x)(h2:x=w::r)(h3:dY p l 0=dY p (w::r) (l.length-(w::r).length))(h4:p w=false):dY p l 0=dY p r (l.length-r.length):=by rw[h3,(og h1 h2).1,(og h1 h2).2,dY,h4];rfl
theorem Ny:dY p l 0=dY p l (l.length-l.length):=by simp_all
end
def nQ(s:PStep):Bool:=ah s.kind 0&&eJ s.label []
def tz(s:PStep):Bool:=aC 0 s.kind&&(aj (aC 7 s.kind)&&kq s.label)
def N4:List PStep→Bool
 |[]=>true
 |s::r=>(nQ s||tz s)&&r.all tz
def kB(p:List PStep):Bool:=N4 p&&aj (aC 9 (.ofNat p.length))
def Hn(p r:List PStep):Bool:=bif Nat.beq r.length p.length then N4 r else r.all tz
theorem N3{p:List PStep}:N4 p=Hn p p:=by simp_all[Hn]
theorem U5{p:List PStep}:Hn p []=true:=by unfold Hn;cases Nat.beq ([]:List PStep).length p.length<;>rfl
theorem Ew{p x r:List PStep}{w:PStep}{j:Nat}(h1:p.drop j=x)(h2:x=w::r)(h3:N4 p=Hn p (w::r)):N4 p=((bif ah (Int.ofNat j) 0 then(nQ w||tz w)else tz w)&&Hn p r):=by
 obtain⟨e1,e2⟩:=og h1 h2;have e3:=congrArg List.length (h1.trans h2);simp only[wX,cT]at e1 e2 e3;have f1:Nat.beq r.length p.length=false:=by cases h:Nat.beq r.length p.length with|false=>rfl|true=>grind[Nat.eq_of_beq_eq_true]
 rw[h3];unfold Hn;rw[f1];cases j with
 |zero=>
  have f2:Nat.beq (w::r).length p.length=true:=by simp_all
  rw[f2];rfl
 |succ j=>
  have f2:Nat.beq (w::r).length p.length=false:=by cases h:Nat.beq (w::r).length p.length with|false=>rfl|true=>simp_all
  rw[f2];rfl
def dW:Int→aO
 |0=>[98,111,111,107]
 |1=>[112,97,114,116]
 |2=>[115,101,99,116,105,111,110]
 |3=>[112,97,114,97,103,114,97,112,104]
 |4=>[116,97,98,108,101]
 |5=>[114,111,119]
 |6=>[99,101,108,108]
 |7=>[110,111,116,101]
 |_=>[]
def HR:Int→List Int
 |0=>[1,2]
 |1=>[2]
 |2=>[3,4,7]
 |3=>[3,4,7]
 |4=>[5]
 |5=>[6]
 |_=>[]
def jz(p k:Int):Bool:=(HR p).any (ah k)
theorem Iu{k:Int}(h:k<0∨7<k):dW k=[]:=by
 unfold dW;grind
theorem HP{k:Int}(h:k<0∨7<k):HR k=[]:=by
 unfold HR;grind
end Go.Ev
namespace Go.Ev
open Go Go.RowKit Go.Proofs
structure ClassOf(p:UInt8→Bool)(q:Nat→Bool):Prop where
 low:∀c:UInt8,c.toNat<128→q c.toNat=aj (p c)
 high:∀n,128≤n→q n=true
 none:∀c:UInt8,128≤c.toNat→p c=false
theorem UW{s:aO}{i:Nat}(h:i<s.length)(h2:i<ByteArray.size ⟨⟨s⟩⟩):(ByteArray.mk ⟨s⟩)[i]'h2=gD s i:=by
 simp[gD,List.getD,lI h];rfl
theorem uU{p:UInt8→Bool}{q:Nat→Bool}(hc:ClassOf p q)(s:aO):∀(f pos:Nat),pos≤ee p s→s.length≤pos+f→Lib.idxFuncFrom q true ⟨⟨s⟩⟩ f pos=(bif Nat.beq (ee p s) s.length then -1 else Int.ofNat (ee p s))
 | f,pos,h1,h2=>by
  have hl:=J6 (p:=p) (s:=s);have hsz:ByteArray.size ⟨⟨s⟩⟩=s.length:=rfl;by_cases he:pos<s.length
  ·cases f with
   |zero=>omega
   | succ f=>
    unfold Lib.idxFuncFrom;rw[hsz,if_pos he];have hb:=UW he (by rw[hsz];exact he);by_cases hr:pos<ee p s
    ·have hp:=J7 hr;have ha:(gD s pos).toNat<128:=by
      rcases fF (gD s pos).toNat 128 with h|h
      ·exact h
      ·rw[hc.none _ h]at hp;cases hp
     rw[decode_ascii _ pos (by rw[hsz];exact he) (by rw[hb];exact ha),hb];rw[if_neg (by rw[hc.low _ ha,hp];decide)];exact uU hc s f (pos+1) hr (by omega)
    ·have e:ee p s=pos:=by omega
     have hp:=Fj (p:=p) (s:=s) (by omega);rw[e]at hp;have hq:q (Utf8.decode ⟨⟨s⟩⟩ pos).1=true:=by
      rcases fF (gD s pos).toNat 128 with h|h
      ·rw[decode_ascii _ pos (by rw[hsz];exact he) (by rw[hb];exact h),hb,hc.low _ h,hp];rfl
      ·exact hc.high _ (decode_high _ pos (by rw[hsz];exact he) (by rw[hb];exact h)).1
     rw[if_pos hq,e];have f1:Nat.beq pos s.length=false:=by cases h:Nat.beq pos s.length with|false=>rfl|true=>have:=pp h;omega
     rw[f1];rfl
  ·have e:ee p s=s.length:=by omega
   rw[Lib.idxFuncFrom_end _ _ _ _ _ (by rw[hsz];exact he),e,qQ];rfl
theorem wP{p:UInt8→Bool}{q:Nat→Bool}(hc:ClassOf p q)(s:aO):Lib.idxFunc q true ⟨⟨s⟩⟩=(bif Nat.beq (ee p s) s.length then -1 else Int.ofNat (ee p s)):=uU hc s _ 0 (bL _) (by show s.length≤0+s.length;omega)
section
variable{P:Program}{G:eB}{f g:FuncId}
theorem B7{pl:Pl}{M:dB}{w:World}{h:AHeap}(hGT:iO G)(hg2:∀args w,(callFunc g args).run P w=.ok (.enter g args) w){q:Nat→Bool}{qI:Int→Bool}(hp:∀r:Int,aM P G g [.int .i32 r] (.bool (qI r)))(hq:∀n:Nat,qI (.ofNat n)=q n)
  (hG:pn G pl M)(hr:cG pl M h w):PredGrows P g #[] q w:=by
 intro W x _ hb;refine Calls.mono (aM.calls hGT hg2 (hp (.ofNat x)) hG (hr.below hb) (vs:=#[.int .i32 (.ofNat x)]) ⟨rfl,fun j y hj=>?_⟩) fun e w' ⟨⟨cv,pl',M',he,hv⟩,hb',_⟩=>?_
 ·cases j with
  |zero=>simp at hj;subst hj;exact .int _ _
  |succ j=>simp_all
 grind[cases VRel]
theorem zG(hGT:iO G)(hE:∀vs w,(callFunc f vs).run P w=.ok (.enter f vs) w)(hg2:∀args w,(callFunc g args).run P w=.ok (.enter g args) w){q:Nat→Bool}{qI:Int→Bool}
  (hC:∀(s:ByteArray)(w:World),PredGrows P g #[] q w→Calls P f #[.string s,.func (.func g) #[] #[]] w fun e w'=>e=.returned (.int .i64 (Lib.idxFunc q true s))∧Below w.heap.size w w')
  (hp:∀r:Int,aM P G g [.int .i32 r] (.bool (qI r)))(hq:∀n:Nat,qI (.ofNat n)=q n){p:UInt8→Bool}(hc:ClassOf p q)(s:aO):
  aM P G f [.str s,.func (.func g) [] []] (.int .i64 (bif Nat.beq (ee p s) s.length then -1 else Int.ofNat (ee p s))):=by
 refine aM.below hE fun pl M w vs h hG hr hv=>?_
 obtain⟨a,b,rfl,hv1,hv2⟩:=AD hv;have e2:=yT hv2;subst e2;cases hv1
 rw[←wP hc s];exact⟨_,.int _ _,hC ⟨⟨s⟩⟩ w (B7 hGT hg2 hp hq hG hr)⟩
theorem uC(hGT:iO G)(hE:∀vs w,(callFunc f vs).run P w=.ok (.enter f vs) w)(hg2:∀args w,(callFunc g args).run P w=.ok (.enter g args) w){q:Nat→Bool}{qI:Int→Bool}
  (hC:∀(s:ByteArray)(w:World),PredGrows P g #[] q w→Calls P f #[.string s,.func (.func g) #[] #[]] w fun e w'=>e=.returned (.bool (decide (0≤Lib.idxFunc q true s)))∧Below w.heap.size w w')
  (hp:∀r:Int,aM P G g [.int .i32 r] (.bool (qI r)))(hq:∀n:Nat,qI (.ofNat n)=q n){p:UInt8→Bool}(hc:ClassOf p q)(s:aO):
  aM P G f [.str s,.func (.func g) [] []] (.bool (aj (s.all p))):=by
 refine aM.below hE fun pl M w vs h hG hr hv=>?_
 obtain⟨a,b,rfl,hv1,hv2⟩:=AD hv;have e2:=yT hv2;subst e2;cases hv1
 have e:aj (s.all p)=decide (0≤Lib.idxFunc q true ⟨⟨s⟩⟩):=by
  rw[wP hc s];cases ha:s.all p with
  |true=>rw[(vk (p:=p)).2 ha,qQ];rfl
  | false=>
   have:Nat.beq (ee p s) s.length=false:=by
    cases hb:Nat.beq (ee p s) s.length with
    |false=>rfl
    |true=>grind[vk,Nat.eq_of_beq_eq_true]
   simp_all
 rw[e];exact⟨_,.bool _,hC ⟨⟨s⟩⟩ w (B7 hGT hg2 hp hq hG hr)⟩
end
theorem HY{lo hi:Nat}(h:hi<128):ClassOf (Qm (Int.ofNat lo) (Int.ofNat hi)) fun n=>aC (Int.ofNat n) (Int.ofNat lo)||aC (Int.ofNat hi) (Int.ofNat n) where
 low c _:=by unfold Qm;simp_all
 high n hn:=by rw[show aC (Int.ofNat hi) (Int.ofNat n)=true from ko (by grind)];simp_all
 none c hn:=Wn (ko (by grind))
end Go.Ev
namespace Go.Ev
open Go Go.RowKit
section
variable{P:Program}{G:eB}{f:FuncId}
theorem HT{pl:Pl}{M:dB}{w:World}{h:AHeap}(hr:cG pl M h w){l:List aO}{a:Addr}{n cap:Nat}(hv:VRel pl M (.ps (l.map m0) false) (.slice (some a) n cap))(hne:l≠[]):
  n=l.length∧n≤cap∧a=⟨a.block,a.off,none⟩∧a.block<w.heap.size∧∀(j:Nat)(x:ByteArray),(l.map fun s=>(⟨⟨s⟩⟩:ByteArray))[j]?=some x→w.cell? ⟨a.block,a.off+j,none⟩=some (.string x):=by
 cases hv with
 | ps hl ht hm hs hc=>
  rename_i sz c;have hne':l.map m0≠[]:=by simp_all
  obtain⟨m1,m2,m3,m4⟩:=hm hne';obtain⟨t,fr,hb⟩:=hr.imm _ _ m2;have hsz:sz=1:=by
   cases l with
   |nil=>simp_all
   |cons s r=>exact((hs (m0 s) (by simp)).1).symm
  subst hsz;refine⟨by simp,hl,by rw[←m1],hr.memLt m2,fun j x hj=>?_⟩;rw[qW]at hj;obtain⟨s,e1,rfl⟩:=Es.1 hj;have hlt:j<l.length:=(gd.1 e1).1;have q:=hc j (m0 s) 0 (.str s) (by simp_all) rfl;rw[Nat.mul_one,pu]at q;have hin:a.off+j<c.size:=by grind
  have e2:c[a.off+j]?=some (c.getD (a.off+j) undef):=by simp_all
  simp only[World.cell?,hb];simp only[Option.isSome_none,gw,if_false];rw[e2];cases hq:c.getD (a.off+j) undef<;>rw[hq]at q<;>cases q
  rfl
theorem Nq(hE:∀vs w,(callFunc f vs).run P w=.ok (.enter f vs) w)
  (hC:∀(bk o c:Nat)(xs:List ByteArray)(sep:ByteArray)(w:World),(∀(j:Nat) x,xs[j]?=some x→w.cell? ⟨bk,o+j,none⟩=some (.string x))→bk<w.heap.size→xs.length≤140737488355328→xs.length≤c→
   (Lib.join (xs.map (·.data.toList)) sep.data.toList).length≤140737488355328→
   Calls P f #[.slice (some ⟨bk,o,none⟩) xs.length c,.string sep] w fun e w'=>e=.returned (.string ⟨(Lib.join (xs.map (·.data.toList)) sep.data.toList).toArray⟩)∧Below w.heap.size w w')
  (hN:∀(a:Option Addr)(c:Nat)(sep:ByteArray)(w:World),Calls P f #[.slice a 0 c,.string sep] w fun e w'=>e=.returned (.string ⟨#[]⟩)∧w'=w)
  (l:List aO)(sep:aO)(h1:l.length≤140737488355328)(h2:(Lib.join l sep).length≤140737488355328):aM P G f [.ls (l.map m0),.str sep] (.str (Lib.join l sep)):=by
 refine aM.below hE fun pl M w vs h hG hr hv=>?_
 obtain⟨a,b,rfl,hv1,hv2⟩:=AD hv;cases hv2
 have nil (p:Option Addr) (cap:Nat) (hl:l=[]):∃cv,VRel pl M (.str (Lib.join l sep)) cv∧Calls P f #[.slice p 0 cap,.string ⟨⟨sep⟩⟩] w fun e w'=>e=.returned cv∧Below w.heap.size w w':=by
  subst hl;exact⟨.string ⟨⟨[]⟩⟩,.str _,Calls.mono (hN p cap ⟨⟨sep⟩⟩ w) fun e w' ⟨he,hw⟩=>⟨he,hw▸Below.refl _ _⟩⟩
 generalize hx:l.map m0=xs at hv1;cases hv1 with
 |lsn=>simp_all
 | lsp hp ht=>
  subst hx;by_cases hl:l=[]
  ·subst hl;cases hp with
   |ps=>simp_all
  ·have hp':=hp;cases hp with
   |ps=>
    rename_i a cap sz c _ _ _ _ _;obtain⟨e1,e2,e3,e4,e5⟩:=HT hr hp' hl;have e6:(l.map fun s=>(⟨⟨s⟩⟩:ByteArray)).map (·.data.toList)=l:=by rw[List.map_map];exact List.map_id l
    have:=hC a.block a.off cap (l.map fun s=>⟨⟨s⟩⟩) ⟨⟨sep⟩⟩ w e5 e4 (by grind) (by grind) (by grind);rw[e6,←e3,b7,←e1]at this;exact⟨.string ⟨⟨Lib.join l sep⟩⟩,.str _,this⟩
theorem Fv(hE:∀vs w,(callFunc f vs).run P w=.ok (.enter f vs) w)
  (hC:∀(s:ByteArray)(c:Nat)(w:World),c≤9223372036854775807→s.size*c≤140737488355328→Calls P f #[.string s,.int .i64 c] w fun e w'=>e=.returned (.string ⟨(Lib.repeatL s.data.toList c).toArray⟩)∧Below w.heap.size w w')
  (s:aO)(c:Nat)(h1:c≤9223372036854775807)(h2:s.length*c≤140737488355328):aM P G f [.str s,.int .i64 (.ofNat c)] (.str (Lib.repeatL s c)):=by
 refine aM.below hE fun pl M w vs h hG hr hv=>?_
 obtain⟨a,b,rfl,hv1,hv2⟩:=AD hv;cases hv1;cases hv2
 exact⟨.string ⟨⟨Lib.repeatL s c⟩⟩,.str _,hC ⟨⟨s⟩⟩ c w h1 h2⟩
theorem LR(hE:∀vs w,(callFunc f vs).run P w=.ok (.enter f vs) w)
  (hC:∀(s cs:ByteArray)(w:World),s.size≤9223372036854775807→cs.size<4294967281→(∀(j:Nat) b,cs.data.toList[j]?=some b→b.toNat<128)→
   Calls P f #[.string s,.string cs] w fun e w'=>e=.returned (.string ⟨(Lib.trimS s.data.toList cs.data.toList).toArray⟩)∧Below w.heap.size w w')
  (s cs:aO)(h1:s.length≤9223372036854775807)(h2:cs.length<4294967281)(h3:∀b,b∈cs→b.toNat<128):aM P G f [.str s,.str cs] (.str (Lib.trimS s cs)):=by
 refine aM.below hE fun pl M w vs h hG hr hv=>?_
 obtain⟨a,b,rfl,hv1,hv2⟩:=AD hv;cases hv1;cases hv2
 exact⟨.string ⟨⟨Lib.trimS s cs⟩⟩,.str _,hC ⟨⟨s⟩⟩ ⟨⟨cs⟩⟩ w h1 h2 fun j b hj=>h3 b (bi hj)⟩
end
end Go.Ev
namespace Go.Ev
open Go
structure PId where
 a:Int
 i:Int
 n:Int
 deriving Inhabited,DecidableEq
noncomputable def aK(p:PId):AV:=.agg [.int .i64 p.a,.int .i64 p.i,.int .i64 p.n]
theorem JJ(p:PId):(aK p).top=0:=rfl
def bJ(u:TUnit):PId:=⟨u.act,u.item,u.n⟩
def bh(p q:PId):Bool:=ah p.a q.a&&(ah p.i q.i&&ah p.n q.n)
theorem uy{p q:PId}(h:bh p q=true):p=q:=by
 unfold bh at h;rw[bx,bx]at h;obtain⟨a,b,c⟩:=p;obtain⟨d,e,g⟩:=q;grind[jR]
theorem jB(p:PId):bh p p=true:=by simp[bh,bq]
abbrev fE(p:PId)(u:TUnit):Bool:=bh (bJ u) p
theorem ID:KeyOf PId true 3 [(0,1),(1,1),(2,1)] aK bh where
 eq a b:=by
  show xo [.int .i64 a.a,.int .i64 a.i,.int .i64 a.n] [.int .i64 b.a,.int .i64 b.i,.int .i64 b.n] [(0,1),(1,1),(2,1)]=_
  simp only[xo,jo,Si,I9,kp,bh];cases h1:ah a.a b.a<;>cases h2:ah a.i b.i<;>cases h3:ah a.n b.n<;>rfl
 t a b h:=uy h
 refl a:=jB a
 same a:=by simp[aK,mj,ju,jO,kp,bq]
 top a:=rfl
mutual
def nU:TUnit→Nat
 |⟨_,_,_,_,_,_,_,ks⟩=>1+eW ks
def eW:List TUnit→Nat
 |[]=>0
 |k::r=>nU k+eW r
end
mutual
def m5:TUnit→Nat
 |⟨_,_,_,_,_,_,_,ks⟩=>kr ks
def kr:List TUnit→Nat
 |[]=>0
 |k::r=>Nat.max (1+m5 k) (kr r)
end
mutual
def bu:TUnit→List TUnit
 |⟨x1,x2,x3,x4,x5,x6,x7,ks⟩=>⟨x1,x2,x3,x4,x5,x6,x7,ks⟩::dA ks
def dA:List TUnit→List TUnit
 |[]=>[]
 |k::r=>bu k++dA r
end
mutual
def aE(p:PId):TUnit→List TUnit
 |⟨x1,x2,x3,x4,x5,x6,x7,ks⟩=>bif fE p ⟨x1,x2,x3,x4,x5,x6,x7,ks⟩then[⟨x1,x2,x3,x4,x5,x6,x7,ks⟩]else match cb p ks with
  |[]=>[]
  |y::t=>⟨x1,x2,x3,x4,x5,x6,x7,ks⟩::y::t
def cb(p:PId):List TUnit→List TUnit
 |[]=>[]
 |k::r=>match aE p k with
  |[]=>cb p r
  |y::t=>y::t
end
theorem jK(u:TUnit):nU u=1+eW u.kids:=by cases u;rw[nU];rfl
theorem mU:eW []=0:=by rw[eW]
theorem bf(k:TUnit)(r:List TUnit):eW (k::r)=nU k+eW r:=by rw[eW]
theorem Ly(u:TUnit):m5 u=kr u.kids:=by cases u;rw[m5];rfl
theorem CF:kr []=0:=by rw[kr]
theorem Jq(k:TUnit)(r:List TUnit):kr (k::r)=Nat.max (1+m5 k) (kr r):=by rw[kr]
theorem de(u:TUnit):bu u=u::dA u.kids:=by cases u;rw[bu];rfl
theorem fS:dA []=[]:=by rw[dA]
theorem bM(k:TUnit)(r:List TUnit):dA (k::r)=bu k++dA r:=by rw[dA]
def dw(u:TUnit):List PId:=(bu u).map bJ
def ii(l:List TUnit):List PId:=(dA l).map bJ
theorem nl(u:TUnit):dw u=bJ u::ii u.kids:=by unfold dw ii;rw[de];rfl
theorem rk:ii []=[]:=by unfold ii;rw[fS];rfl
theorem gz(k:TUnit)(r:List TUnit):ii (k::r)=dw k++ii r:=by grind[dw,ii,bM]
theorem Dg:∀{l:List TUnit}{k:TUnit},k∈l→nU k≤eW l
 |x::r,k,h=>by
  rw[bf];rcases fC.1 h with rfl|h
  ·omega
  ·have:=Dg h;omega
theorem iE{u k:TUnit}(h:k∈u.kids):nU k<nU u:=by rw[jK u];have:=Dg h;omega
theorem Il(u:TUnit):0<nU u:=by grind[jK]
theorem x9:∀(l:List TUnit),l.length≤eW l
 |[]=>by simp_all
 |k::r=>by
  rw[bf,cT];have:=x9 r;grind[Il]
theorem bg(u:TUnit):u.kids.length<nU u:=by grind[jK,x9]
theorem MB{l:List TUnit}(h:∀k,k∈l→(bu k).length=nU k):(dA l).length=eW l:=by
 induction l with
 |nil=>rw[fS,mU];rfl
 |cons k r ih=>grind[bM,bf]
theorem Ff:∀(u:TUnit),(bu u).length=nU u:=TUnit.ind fun u ih=>by grind[de,jK,MB]
theorem uq(u:TUnit):(dw u).length=nU u:=by grind[dw,Ff]
theorem Rb{l:List TUnit}{n:Nat}(h:∀k,k∈l→1+m5 k≤n):kr l≤n:=by
 induction l with
 |nil=>grind[CF]
 |cons k r ih=>grind[Jq]
theorem DR:∀(u:TUnit),m5 u<nU u:=TUnit.ind fun u ih=>by
 have:kr u.kids≤eW u.kids:=Rb fun k hk=>by have:=ih k hk;have:=Dg hk;omega
 grind[Ly,jK]
section
variable{p:PId}{u w:TUnit}{r:List TUnit}
theorem gv(u:TUnit):aE p u=bif fE p u then[u]else match cb p u.kids with|[]=>[]|y::t=>u::y::t:=by cases u;rw[aE];rfl
theorem kG:cb p []=[]:=by rw[cb]
theorem oH(k:TUnit)(r:List TUnit):cb p (k::r)=match aE p k with|[]=>cb p r|y::t=>y::t:=by rw[cb]
def bA(p:PId)(u:TUnit):Bool:=aj (aE p u).isEmpty
theorem zN(h:bA p u=false):aE p u=[]:=by grind[bA]
theorem vC(h:bA p u=true):∃y t,aE p u=y::t:=by
 unfold bA at h;cases e:aE p u with
 |nil=>grind
 |cons x r=>simp_all
theorem lY(h:bA p u=true):aE p u≠[]:=by grind[vC]
theorem oI(h:fE p u=true):aE p u=[u]:=by rw[gv,h];rfl
theorem DC(h:fE p u=true):bA p u=true:=by unfold bA;rw[oI h];rfl
theorem iS(h:bA p w=false):cb p (w::r)=cb p r:=by rw[oH,zN h]
theorem n7(h:bA p w=true):cb p (w::r)=aE p w:=by grind[vC,oH]
theorem Oh(h:fE p u=false)(h2:cb p u.kids=cb p []):aE p u=[]:=by rw[gv,h,h2,kG];rfl
theorem Gj(h:fE p u=false)(h2:cb p u.kids=cb p []):bA p u=false:=by unfold bA;rw[Oh h h2];rfl
theorem Ju(h:fE p u=false)(h2:cb p u.kids=cb p (w::r))(h3:bA p w=true):aE p u=u::aE p w:=by grind[gv,n7,vC]
theorem T7(h:fE p u=false)(h2:cb p u.kids=cb p (w::r))(h3:bA p w=true):bA p u=true:=by unfold bA;rw[Ju h h2 h3];rfl
end
theorem mK{p:PId}:∀(u:TUnit),(aE p u).length≤nU u:=TUnit.ind fun u ih=>by
 rw[gv];cases fE p u with
 |true=>exact Il u
 | false=>
  have key:∀(r:List TUnit),(∀k,k∈r→k∈u.kids)→(cb p r).length≤eW r:=by
   intro r;induction r with
   |nil=>grind[kG]
   |cons k r ihr=>grind[oH,bf]
  grind[jK]
def bc:TUnit:=⟨0,0,0,0,[],[],[],[]⟩
noncomputable def dh(p:PId)(u:TUnit):TUnit:=bif bA p u then gD (aE p u) ((aE p u).length -1)else bc
theorem JB{p:PId}:∀(u:TUnit)(x:TUnit),x∈aE p u→x∈bu u:=TUnit.ind fun u ih=>by
 intro x hx;rw[gv]at hx;rw[de];cases h:fE p u with
 |true=>simp_all
 | false=>
  rw[h]at hx;simp only[cond_false]at hx;have key:∀(r:List TUnit),(∀k,k∈r→k∈u.kids)→∀x,x∈cb p r→x∈dA r:=by
   intro r;induction r with
   |nil=>grind[kG]
   |cons k r ihr=>grind[oH,bM]
  grind
noncomputable def pE(p:Int×aO):AV:=.agg [.int .i64 p.1,.str p.2]
def mS(a b:Int×aO):Bool:=ah a.1 b.1&&eJ a.2 b.2
theorem qD:∀(s:aO),eJ s s=true
 |[]=>rfl
 |c::r=>by simp only[eJ,qD r,Bool.and_true];simp_all
theorem GM:∀{a b:aO},eJ a b=true→a=b
 |[],[],_=>rfl
 |c::r,d::q,h=>by
  simp only[eJ,bx]at h;rw[GM h.2,UInt8.toNat_inj.1 (pp h.1)]
theorem K5:KeyOf (Int×aO) true 2 [(0,1),(1,2)] pE mS where
 eq a b:=by
  show xo [.int .i64 a.1,.str a.2] [.int .i64 b.1,.str b.2] [(0,1),(1,2)]=_
  simp only[xo,jo,Si,I9,kp,mS];cases h1:ah a.1 b.1<;>cases h2:eJ a.2 b.2<;>rfl
 t a b h:=by
  simp only[mS,bx]at h;grind[jR,GM]
 refl a:=by simp[mS,bq,qD]
 same a:=by simp[pE,mj,ju,jO,kp,bq,qD]
 top a:=rfl
noncomputable def da(b:Bool):AV:=.bool b
theorem Aj(b:Bool):(da b).top=0:=rfl
def OV{K:Type}(keq:K→K→Bool)(k:K)(l:List (K×Bool)):Bool:=(nS keq k l).getD false
section
variable{K:Type}{ag:Bool}{sz:Nat}{lv:List (Nat×Nat)}{kenc:K→AV}{keq:K→K→Bool}
theorem FO(hk:KeyOf K ag sz lv kenc keq)(m:List (K×Bool))(k:K):eO (some (.bool false)) false (bb ag sz lv (kenc k) (cQ kenc da m 0) 0)=some (.bool (OV keq k m)):=by
 rw[zn hk];unfold OV;cases nS keq k m with
 |none=>rfl
 |some v=>rfl
theorem JD(hk:KeyOf K ag sz lv kenc keq)(m:List (K×Bool))(k:K):rF (cQ kenc da m 0) m.length (kenc k) (.bool true) (bb ag sz lv (kenc k) (cQ kenc da m 0) 0)=some (cQ kenc da (fD keq k true m) 0,(fD keq k true m).length):=BF (f:=da) hk k true m
end
def oF(l:List PWord):Bool:=aj (aC 256 (.ofNat l.length))&&qa (l.map fun w=>w.text)
def mM(pk:Int):List TUnit→List ((Int×aO)×Bool)→Bool
 |[],_=>true
 |k::r,m=>jz pk k.kind&&(aj (OV mS (k.kind,k.label) m)&&mM pk r (fD mS (k.kind,k.label) true m))
def mQ(u:TUnit):Bool:=(bif ah u.kind 0 then eJ u.label []&&aj (aC 0 (.ofNat (u.head.length+u.words.length)))else aj (eJ (dW u.kind) [])&&(kq u.label&&(oF u.head&&oF u.words)))&&(mM u.kind u.kids []&&aj (aC 64 (.ofNat u.kids.length)))
def vT(q:TUnit→Bool)(u:TUnit):Bool:=(bu u).all q
theorem yz(q:TUnit→Bool)(u:TUnit):vT q u=(q u&&(dA u.kids).all q):=by grind[vT,de]
theorem N2(q:TUnit→Bool):(dA []).all q=true:=by rw[fS];rfl
theorem AH(q:TUnit→Bool)(k:TUnit)(r:List TUnit):(dA (k::r)).all q=(vT q k&&(dA r).all q):=by rw[bM,List.all_append];rfl
def BP(l:List PId)(m:List (PId×Bool)):List (PId×Bool):=l.foldl (fun m p=>fD bh p true m) m
def bj:PId:=⟨0,0,0⟩
def QA(u:TUnit):Bool:=(OV bh bj (BP (dw u) [])&&ah (.ofNat (BP (dw u) []).length) 1)||(ah (.ofNat (BP (dw u) []).length) (.ofNat (dw u).length)&&(ah u.kind 0==fE bj u))
def kH(u:TUnit):Bool:=vT mQ u&&(aj (aC 8 (.ofNat (m5 u)))&&(aj (aC 1024 (.ofNat (nU u)))&&QA u))
theorem bH{u k:TUnit}(h:k∈u.kids){x:TUnit}(hx:x∈bu k):x∈bu u:=by
 rw[de];refine fQ _ ?_;generalize u.kids=l at h;induction l with
 |nil=>grind
 |cons y r ih=>grind[bM]
theorem dl(u:TUnit):u∈bu u:=by grind[de]
theorem K4{u k:TUnit}(h:k∈u.kids):k∈bu u:=bH h (dl k)
end Go.Ev
namespace Go.Ev
open Go
def cN{α:Type}(q:α→α→Bool):List α→List α→Bool
 |[],[]=>true
 |x::l,y::m=>q x y&&cN q l m
 |_,_=>false
theorem od{α:Type}{q:α→α→Bool}:∀{l m:List α},l.length≠m.length→cN q l m=false
 |[],[],h=>absurd rfl h
 |[],y::m,_=>rfl
 |x::l,[],_=>rfl
 |x::l,y::m,h=>by
  unfold cN;rw[od (l:=l) (m:=m) (fun e=>h (by simp[e]))];exact wY _
theorem GL{α:Type}{q:α→α→Bool}(hq:∀a b,q a b=true↔a=b):∀{l m:List α},cN q l m=true↔l=m
 |[],[]=>by simp[cN]
 |[],y::m=>by simp[cN]
 |x::l,[]=>by simp[cN]
 |x::l,y::m=>by simp[cN,hq,GL hq (l:=l) (m:=m)]
section
variable{α:Type}[Inhabited α]{q:α→α→Bool}{l m x r:List α}{w:α}{j:Nat}
theorem yY{m:List α}{j:Nat}(h:j<m.length):m.drop j=gD m j::m.drop (j+1):=by grind[List.drop_eq_getElem_cons,gD]
theorem lU(h1:l.drop j=x)(h2:x=w::r)(hl:l.length=m.length)(h3:cN q l m=cN q (w::r) (m.drop (l.length-(w::r).length))):cN q l m=(q w (gD m j)&&cN q r (m.drop (l.length-r.length))):=by
 have e:=congrArg List.length (h1.trans h2);simp only[wX,cT]at e;rw[h3,(og h1 h2).1,(og h1 h2).2,yY (by omega),cN]
omit [Inhabited α]in
theorem qC(hl:l.length=m.length)(h3:cN q l m=cN q [] (m.drop (l.length-([]:List α).length))):cN q l m=true:=by rw[h3,gE,Nat.sub_zero,hl,List.drop_length];rfl
end
def Lj(a b:PWord):Bool:=eJ a.text b.text&&(ah a.act b.act&&(ah a.item b.item&&ah a.at_ b.at_))
theorem Ub(a b:PWord):Lj a b=true↔a=b:=by
 obtain⟨t,x,y,z⟩:=a;obtain⟨t',x',y',z'⟩:=b;simp only[Lj,bx,PWord.mk.injEq];constructor
 ·grind[GM,jR]
 ·grind[qD,bq]
mutual
def jU:TUnit→TUnit→Bool
 |⟨a,i,n,k,l,h,w,ks⟩,v=>bh ⟨a,i,n⟩ (bJ v)&&(ah k v.kind&&(eJ l v.label&&(cN Lj h v.head&&(cN Lj w v.words&&Nt ks v.kids))))
def Nt:List TUnit→List TUnit→Bool
 |[],[]=>true
 |k::r,[]=>false
 |k::r,x::s=>jU k x&&Nt r s
 |[],x::s=>false
end
theorem RK(u v:TUnit):jU u v=(bh (bJ u) (bJ v)&&(ah u.kind v.kind&&(eJ u.label v.label&&(cN Lj u.head v.head&&(cN Lj u.words v.words&&cN jU u.kids v.kids))))):=by
 have key:∀(l m:List TUnit),Nt l m=cN jU l m:=by
  intro l;induction l with
  |nil=>intro m;cases m<;>(rw[Nt];rfl)
  |cons x l ih=>intro m;cases m with|nil=>rw[Nt];rfl|cons y m=>rw[Nt,ih];rfl
 cases u
 rw[jU,key];rfl
theorem Uc:∀(u v:TUnit),jU u v=true↔u=v:=TUnit.ind fun u ih=>by
 have key:∀(l:List TUnit),(∀k,k∈l→k∈u.kids)→∀m,cN jU l m=true↔l=m:=by
  intro l;induction l with
  |nil=>grind[cN]
  |cons x l ihl=>
   intro hm m;cases m with
   |nil=>simp[cN]
   |cons y m=>grind[cN]
 intro v;rw[RK];simp only[bx,key u.kids (fun _ h=>h),GL Ub];obtain⟨a,i,n,k,l,h,w,ks⟩:=u;obtain⟨a',i',n',k',l',h',w',ks'⟩:=v;simp only[TUnit.mk.injEq,bJ,TUnit.act,TUnit.item,TUnit.n,TUnit.kind,TUnit.label,TUnit.head,TUnit.words,TUnit.kids];constructor
 ·grind[uy,jR,GM]
 ·rintro⟨rfl,rfl,rfl,rfl,rfl,rfl,rfl,rfl⟩
  exact⟨jB _,bq _,qD _,rfl,rfl,rfl⟩
end Go.Ev
namespace Go.Ev
open Go
def HC(u v:AV):Prop:=(Sc v→Sc u)∧Les u.cells v.cells
theorem HC.refl(v:AV):HC v v:=⟨id,Les.refl _⟩
theorem HC.one{u v:AV}(hu:u.cells=[u])(hv:v.cells=[v])(hs:cL u=true)(h:Le u v):HC u v:=⟨fun _ y hy=>by simp_all,by rw[hu,hv];exact .cons h .nil⟩
inductive LesC:List AV→List AV→Prop
 |nil:LesC [] []
 |cons {u v:AV} {us vs:List AV} (h:HC u v) (k:LesC us vs):LesC (u::us) (v::vs)
theorem LesC.len{us vs:List AV}(h:LesC us vs):us.length=vs.length:=by
 induction h with
 |nil=>rfl
 |cons _ _ ih=>simp_all
theorem LesC.at_{us vs:List AV}(h:LesC us vs):∀(j:Nat)(u:AV),us[j]?=some u→∃v,vs[j]?=some v∧HC u v:=by
 induction h with
 |nil=>simp_all
 |cons h k ih=>grind
theorem Ef{xs ys:List AV}{t:Bool}(h:LesC xs ys):Le (.ps xs false) (.ps ys t):=fun pl M v hv=>by
 cases hv with
 | @ps _ _ a cap sz c hl ht hm hs hc=>
  rw[←h.len];refine .ps (sz:=sz) (c:=c) (by rw[h.len];omega) (fun h=>by grind) (fun hx=>?_) (fun x hx=>?_) fun i x j y hx hy=>?_
  ·have:ys≠[]:=fun e=>hx (qJ (by rw[h.len,e];rfl))
   rw[h.len];simp_all
  ·obtain⟨i,hi⟩:=Br hx;obtain⟨y,h1,h2,h3⟩:=h.at_ i x hi;have:=hs y (bi h1);exact⟨h3.len.trans this.1,h2 this.2⟩
  ·obtain⟨z,h1,_,h3⟩:=h.at_ i x hx;obtain⟨d,h4,h5⟩:=h3.at_ j y hy;exact h5 _ _ _ (hc i z j d h1 h4)
theorem Xf{xs ys:List AV}{t:Bool}(h:LesC xs ys)(h0:aq xs=0):Le (.ls xs) (.ps ys t):=fun pl M v hv=>.lsp (Ef h pl M v hv) h0
theorem Xg{xs ys:List AV}(h:LesC xs ys)(h0:aq xs=0):Le (.ls xs) (.ls ys):=fun pl M v hv=>by
 cases hv with
 |lsn=>cases h;exact .lsn
 |lsp hv _=>exact .lsp (Ef h pl M v hv) h0
theorem Le.pls{x:AV}{xs ys:List AV}(h:LesC (x::xs) ys):Le (.ps (x::xs) false) (.ls ys):=fun pl M v hv=>by
 cases hv with
 |lsn=>cases h
 |lsp hv _=>exact Ef h pl M v hv
mutual
def A4:AV→AV→Bool
 | .ls xs,.nils=>xs.isEmpty
 | .ls xs,.ps ys _=>kh xs ys&&Nat.beq (aq xs) 0
 | .ls xs,.ls ys=>kh xs ys&&Nat.beq (aq xs) 0
 | .ps (x::xs) false,.ls ys=>kh (x::xs) ys
 | .ps xs false,.ps ys _=>kh xs ys
 | .agg us,.agg vs=>kh us vs&&us.all cL
 |u,v=>AV.same u v
def kh:List AV→List AV→Bool
 |[],[]=>true
 |a::us,b::vs=>A4 a b&&kh us vs
 |_,_=>false
end
theorem HC.same{u v:AV}(h:AV.same u v=true):Le u v∧HC u v:=by grind[AV.same_eq,Le.refl,HC.refl]
mutual
theorem v9:∀(u v:AV),A4 u v=true→Le u v∧HC u v:=fun u v h=>by
 unfold A4 at h;split at h
 ·rename_i xs;have e:xs=[]:=by simp_all
  subst e;exact⟨Le.nils,HC.one rfl rfl rfl Le.nils⟩
 ·rename_i xs ys t;have h:=n5.1 h;have k:=Xf (t:=t) (jE xs ys h.1).2 (pp h.2);exact⟨k,HC.one rfl rfl rfl k⟩
 ·rename_i xs ys;have h:=n5.1 h;have k:=Xg (jE xs ys h.1).2 (pp h.2);exact⟨k,HC.one rfl rfl rfl k⟩
 ·rename_i x xs ys;have k:=Le.pls (jE (x::xs) ys h).2;exact⟨k,HC.one rfl rfl rfl k⟩
 ·rename_i xs ys t;have k:=Ef (t:=t) (jE xs ys h).2;exact⟨k,HC.one rfl rfl rfl k⟩
 ·rename_i us vs;have h:=n5.1 h;have k:=jE us vs h.1;exact⟨aP k.1 h.2,fun _ y hy=>nq.1 h.2 y hy,k.1⟩
 ·exact HC.same h
theorem jE:∀(us vs:List AV),kh us vs=true→Les us vs∧LesC us vs:=fun us vs h=>by
 unfold kh at h;split at h
 ·exact⟨.nil,.nil⟩
 ·rename_i a us b vs;have h:=n5.1 h;have h1:=v9 a b h.1;have h2:=jE us vs h.2;exact⟨.cons h1.1 h2.1,.cons h1.2 h2.2⟩
 ·grind
end
section
variable{P:Program}{G:eB}{f:FuncId}{a b:List AV}{u v:AV}
theorem aM.args(h:aM P G f a v)(hl:Les a b):aM P G f b v:=fun hp pl M w vs hg hr hv=>h hp pl M w vs hg hr (hv.le hl)
theorem aM.lessB(h:aM P G f a v)(hl:A4 u v=true):aM P G f a u:=h.less (v9 _ _ hl).1
theorem WV(a b:Nat):Cj (.ofNat a) (.ofNat b)=.ofNat (Nat.max a b):=by
 unfold Cj;cases h:aC (.ofNat a) (.ofNat b)with
 |true=>
  have h:=ap h;grind
 |false=>
  have h:=aG h;simp_all
theorem pD{xs ys:List AV}{i t:Nat}{r:List (Nat×Nat)}{x y:AV}{e c:Bool}(hx:jo xs i=some x)(hy:jo ys i=some y)(h:I9 t x y=some e)(k:xo xs ys r=some c):xo xs ys ((i,t)::r)=some (e&&c):=by
 simp only[xo,hx,hy,Si,h];cases e with
 |true=>exact k
 |false=>rfl
theorem Ct{xs ys:List AV}{i t:Nat}{r:List (Nat×Nat)}{x y:AV}{e:Bool}(hx:jo xs i=some x)(hy:jo ys i=some y)(h:I9 t x y=some e)(k:xo xs ys r=some true):xo xs ys ((i,t)::r)=some e:=by
 simp only[xo,hx,hy,Si,h];cases e with
 |true=>exact k
 |false=>rfl
theorem Ek{d:Option TypeDesc}{n:Nat}{l:List (Nat×Nat)}{xs ys:List AV}{c:Bool}{H:AHeap}(hn:(Nat.beq xs.length n&&Nat.beq ys.length n)=true)(hl:xo xs ys l=some c):
  bv H (Su (pN .eql d (some true) (some n) (some l)) (some (.agg xs)) (some (.agg ys)))=some (.val (.bool c) H):=by
 grind[Su,pN,WT,o7,bv]
theorem Ej{d:Option TypeDesc}{n:Nat}{l:List (Nat×Nat)}{xs ys:List AV}{c:Bool}{H:AHeap}(hn:(Nat.beq xs.length n&&Nat.beq ys.length n)=true)(hl:xo xs ys l=some c):
  bv H (Su (pN .neq d (some true) (some n) (some l)) (some (.agg xs)) (some (.agg ys)))=some (.val (.bool (!c)) H):=by
 grind[Su,pN,WT,o7,bv]
def uz:List (FuncId×List AV×AV)→ZY
 |[],_,_,_=>none
 |x::r,g,b,h=>match Nat.beq g x.1 with
  |true=>(match kh x.2.1 b with|true=>some (x.2.2,h)|false=>uz r g b h)
  |false=>uz r g b h
theorem zH:∀{L:List (FuncId×List AV×AV)}{g:FuncId}{h h1:AHeap}{v1:AV},uz L g b h=some (v1,h1)→∃x,x∈L∧g=x.1∧kh x.2.1 b=true∧v1=x.2.2∧h1=h
 |[],_,_,_,_,e=>by grind[uz]
 | x::r,g,h,h1,v1,e=>by
  unfold uz at e;have next:uz r g b h=some (v1,h1)→∃y,y∈x::r∧g=y.1∧kh y.2.1 b=true∧v1=y.2.2∧h1=h:=fun e=>
   let⟨y,k,q⟩:=zH e
   ⟨y,fQ _ k,q⟩
  grind[Nat.eq_of_beq_eq_true]
theorem Gz{C:Cfg}{L:List (FuncId×List AV×AV)}(hC:C.hook=uz L)(hL:∀x,x∈L→aM C.P C.G x.1 x.2.1 x.2.2):Je C:=fun g b hp v1 h1 e pl M w vs hg hr hv=>by
 rw[hC]at e;obtain⟨x,hx,rfl,hl,rfl,rfl⟩:=zH e;rcases hL x hx h1 pl M w vs hg hr (hv.le (jE _ _ hl).1)with⟨k1,k2⟩|⟨cv,w',v2,h2,k1,⟨rfl,rfl⟩,k3⟩
 ·refine .inl ⟨k1,fun cs=>?_⟩;obtain⟨en,w',fr,⟨cv,v2,h2,e1,⟨rfl,rfl⟩,k3⟩,r⟩:=k2 cs;grind
 ·exact .inr ⟨cv,w',k1,k3⟩
def XN(v:AV):Option (AV×AHeap)→Bool
 |some (u,_)=>A4 v u&&Nat.beq u.top 0
 |none=>false
theorem aM.closed{C:Cfg}{k:Nat}(hG:iO C.G)(ev:cK C.P C.G (fN C k))(ht:aq a=0)(h:XN v (fN C k f a AHeap.none)=true):aM C.P C.G f a v:=by
 cases hx:fN C k f a AHeap.none with
 |none=>rw[hx]at h;cases h
 |some r=>
  obtain⟨u,h1⟩:=r;rw[hx]at h;have h:=n5.1 h;exact(lZ hG ht (pp h.2) ((aH.of ev hx).mono fun v1 _ e=>e.1)).lessB h.1
end
end Go.Ev
namespace Go.Ev
open Go
theorem aM.ls0{P:Program}{G:eB}{f:FuncId}{r:List AV}{v:AV}(h1:aM P G f (.nils::r) v)(h2:aM P G f (.ps [] false::r) v):aM P G f (.ls []::r) v:=fun h=>Ei (fun _ _ _ hv=>VRels.first hv fun _ hv=>hv.ls0) (h1 h) (h2 h)
theorem Q6{p:PId}{u:TUnit}(h:bA p u=true):dh p u∈aE p u:=by
 unfold dh;rw[h];have:=pt.2 (lY h);grind[ib]
theorem Sz:∀(u:TUnit),m8 u=(bu u).flatMap ny:=by
 refine TUnit.ind fun u ih=>?_
 rw[LB,de,List.flatMap_cons];congr 1;have key:∀(l:List TUnit),(∀k,k∈l→k∈u.kids)→ku l=(dA l).flatMap ny:=by
  intro l;induction l with
  |nil=>intro _;rw[C5,fS];rfl
  |cons k r ihr=>grind[s8,bM]
 simp_all
theorem Oi{p:PId}:∀(u:TUnit),bA p u=true→bJ (dh p u)=p:=by
 refine TUnit.ind fun u ih h=>?_
 unfold dh;rw[h];simp only[cond_true];cases hh:fE p u with
 |true=>rw[oI hh];exact uy hh
 | false=>
  have key:∀(r:List TUnit),(∀k,k∈r→k∈u.kids)→cb p r≠[]→bJ (gD (cb p r) ((cb p r).length -1))=p:=by
   intro r;induction r with
   |nil=>grind[kG]
   |cons k r ihr=>grind[n7,dh,iS]
  have k2:=key u.kids fun _ h=>h
  obtain⟨y,t,e⟩:=vC h;rw[gv,hh]at e ⊢;grind[gD]
theorem LW{p:PId}:∀(u:TUnit),(∃x,x∈bu u∧bJ x=p)→bA p u=true:=by
 refine TUnit.ind fun u ih ⟨x,hx,hp⟩=>?_
 cases hh:fE p u with
 |true=>grind[DC]
 | false=>
  rw[de]at hx;rcases fC.1 hx with rfl|hx
  ·simp_all[fE,jB]
  ·have key:∀(l:List TUnit),(∀k,k∈l→k∈u.kids)→x∈dA l→cb p l≠[]:=by
    intro l;induction l with
    |nil=>grind[fS]
    |cons k r ihr=>grind[bM,bA,n7,iS]
   grind[bA,gv]
theorem Cz{α β:Type}{f:α→β}:∀{l:List α},(l.map f).Nodup→∀{x y:α},x∈l→y∈l→f x=f y→x=y
 | a::l,h,x,y,hx,hy,e=>by
  rw[eD,List.nodup_cons]at h;rcases fC.1 hx with h1|h1
  ·grind
  ·rcases fC.1 hy with h2|h2
   ·simp_all
   ·exact Cz h.2 h1 h2 e
theorem CC{K V:Type}{kenc:K→AV}{f:V→AV}:∀(l:List (K×V))(i:Nat),(cQ kenc f l i).length=l.length
 |[],_=>rfl
 |(k,v)::r,i=>by rw[cQ,cT,CC r,cT]
theorem L8(m:List (PId×Bool)):BP [] m=m:=rfl
theorem Rz{n:Nat}(h:0<n):ah (Int.ofNat n) 0=false:=by grind[rf]
def Cp(p:PId):TUnit→Option TUnit:=fun u=>(bu u).find? (fE p)
theorem So{p:PId}:∀(u:TUnit),(bA p u=true→Cp p u=some (dh p u))∧(bA p u=false→Cp p u=none):=by
 refine TUnit.ind fun u ih=>?_
 unfold Cp;rw[de];cases hh:fE p u with
 |true=>
  rw[List.find?_cons_of_pos (by omega)];refine⟨fun h=>?_,fun h=>by grind[DC]⟩;unfold dh;rw[h,oI hh];rfl
 | false=>
  rw[List.find?_cons_of_neg (by simp_all)];have key:∀(r:List TUnit),(∀k,k∈r→k∈u.kids)→(cb p r≠[]→(dA r).find? (fE p)=some (gD (cb p r) ((cb p r).length -1)))∧(cb p r=[]→(dA r).find? (fE p)=none):=by
   intro r;induction r with
   |nil=>grind[kG,fS]
   |cons k r ihr=>
    intro hm;have ik:=ih k (hm k (eN ..));have ir:=ihr fun z hz=>hm z (fQ _ hz)
    rw[bM,List.find?_append];cases hk:bA p k with
    |true=>grind[Cp,n7,lY,dh]
    |false=>grind[Cp,iS]
  have k2:=key u.kids fun _ h=>h
  refine⟨fun h=>?_,fun h=>?_⟩
  ·obtain⟨y,t,e⟩:=vC h;unfold dh;rw[h,gv,hh];rw[gv,hh]at e;grind[gD]
  ·have e:=zN h;grind[gv]
theorem gJ(p:PId)(u:TUnit):fE p u=true↔bJ u=p:=⟨uy,fun h=>by simp_all[fE,jB]⟩
theorem Iw{y x:TUnit}:∀(u:TUnit),y∈bu u→x∈bu y→x∈bu u:=by
 refine TUnit.ind fun u ih h hx=>?_
 rw[de]at h ⊢;rcases fC.1 h with rfl|h
 ·grind[de]
 ·refine fQ _ ?_;have key:∀(l:List TUnit),(∀k,k∈l→k∈u.kids)→y∈dA l→x∈dA l:=by
   intro l;induction l with
   |nil=>grind[fS]
   |cons k r ihr=>grind[bM]
  simp_all
theorem i9{y x u:TUnit}(h:y∈bu u)(hx:x∈bu y):x∈bu u:=Iw u h hx
theorem Pd{x:TUnit}:∀(u:TUnit),x∈bu u→nU x≤nU u:=by
 refine TUnit.ind fun u ih h=>?_
 rw[de]at h;rcases fC.1 h with rfl|h
 ·omega
 ·have key:∀(l:List TUnit),(∀k,k∈l→k∈u.kids)→x∈dA l→nU x<nU u:=by
   intro l;induction l with
   |nil=>grind[fS]
   |cons k r ihr=>grind[bM,Nat.lt_of_le_of_lt,iE]
  grind
theorem dO{x u:TUnit}(h:x∈bu u):nU x≤nU u:=Pd u h
section
variable{p:PId}{u w:TUnit}{r:List TUnit}
end
end Go.Ev
namespace Go.Ev
open Go
def kj(a b:PStep):Bool:=ah a.kind b.kind&&eJ a.label b.label
mutual
def DM:PItem→PItem→Bool
 |⟨k,a,t,w,n,u,o,ne,l,f,s,ac,im,d,e,bs⟩,v=>
  (ah k v.kind&&(ah w v.where_&&(ah n v.nth_&&(ah ac v.act&&(ah im v.item&&ah d v.day)))))
  &&((eJ l v.label&&(eJ f v.for_&&(eJ e v.event&&(ah s.kind v.start.kind&&(ah s.day v.start.day&&eJ s.event v.start.event)))))
  &&((cN kj a v.at_&&(cN kj t v.to&&(cN eJ o v.old&&cN eJ ne v.new)))
  &&(jU u v.unit&&Cu bs v.by_)))
def Cu:List PItem→List PItem→Bool
 |[],[]=>true
 |k::r,[]=>false
 |k::r,x::s=>DM k x&&Cu r s
 |[],x::s=>false
end
theorem Rq:∀(l m:List PItem),Cu l m=cN DM l m:=by
 intro l;induction l with
 |nil=>intro m;cases m<;>(rw[Cu];rfl)
 |cons x l ih=>intro m;cases m with|nil=>rw[Cu];rfl|cons y m=>rw[Cu,ih];rfl
theorem Ud(u v:PItem):DM u v=((ah u.kind v.kind&&(ah u.where_ v.where_&&(ah u.nth_ v.nth_&&(ah u.act v.act&&(ah u.item v.item&&ah u.day v.day)))))
  &&((eJ u.label v.label&&(eJ u.for_ v.for_&&(eJ u.event v.event&&(ah u.start.kind v.start.kind&&(ah u.start.day v.start.day&&eJ u.start.event v.start.event)))))
  &&((cN kj u.at_ v.at_&&(cN kj u.to v.to&&(cN eJ u.old v.old&&cN eJ u.new v.new)))
  &&(jU u.unit v.unit&&cN DM u.by_ v.by_)))):=by
 cases u
 rw[DM,Rq];rfl
noncomputable def Df(s:aO):Bool:=aj (aC (.ofNat s.length) 1)&&(aj (aC 16 (.ofNat s.length))&&(aj (aC (.ofNat (gD s 0).toNat) 97)&&(aj (aC 122 (.ofNat (gD s 0).toNat))&&eJ (Lib.trimS s [97,98,99,100,101,102,103,104,105,106,107,108,109,110,111,112,113,114,115,116,117,118,119,120,121,122,48,49,50,51,52,53,54,55,56,57,45]) [])))
def rp(n:Bool)(s:PStart):Bool:=bif ah s.kind 0||ah s.kind 2 then ah s.day 0&&eJ s.event []else bif ah s.kind 1 then(aj (aC s.day 0)&&aj (aC 1048576 s.day))&&eJ s.event []else bif ah s.kind 3 then ah s.day 0&&n else false
end Go.Ev
namespace Go.Ev
open Go
def bD(s:PStep)(u:TUnit):Bool:=ah u.kind s.kind&&eJ u.label s.label
def ge:List PStep→List TUnit→List TUnit
 |[],l=>l
 |s::r,l=>ge r (l.flatMap fun x=>x.kids.filter (bD s))
def eQ(u:TUnit)(p:List PStep):List TUnit:=bif kB p then(match p with
 |[]=>[u]
 |s::r=>ge r (bif nQ s then[u]else(bu u).filter (bD s)))else[]
noncomputable def aF(u:TUnit)(p:List PStep):PId×Int:=match eQ u p with
 |[]=>(bj,7)
 |[x]=>(bJ x,0)
 |_=>(bj,8)
def gC(p:PId)(u:TUnit):Bool:=aj (aC (.ofNat (aE p u).length) 2)
noncomputable def HO(p:PId)(u:TUnit):TUnit:=gD (aE p u) ((aE p u).length -2)
noncomputable def qe(p:PId)(u:TUnit):PId:=bif gC p u then bJ (HO p u)else bj
noncomputable def o5(p:PId)(u:TUnit):Int:=bif gC p u then dY (bA p) (HO p u).kids 0 else -1
def pO(p:PId)(u:TUnit):List PId:=(((aE p u).take ((aE p u).length -1)).map bJ).reverse
structure PSpot where
 id:PId
 at_:Int
 deriving Inhabited
noncomputable def fz(s:PSpot):AV:=.agg [.int .i64 s.id.a,.int .i64 s.id.i,.int .i64 s.id.n,.int .i64 s.at_]
def dH:PSpot:=⟨bj,0⟩
noncomputable def nD(u:TUnit)(p:PId)(n:Int):PSpot×Int:=bif gC p u then(⟨qe p u,o5 p u+n⟩,0)else(dH,9)
noncomputable def dg(w:Int)(u:TUnit)(p:PId):PSpot×Int:=bif ah w 0 then(⟨p,0⟩,0)else bif ah w 1 then(⟨p,.ofNat (dh p u).kids.length⟩,0)else bif ah w 2 then nD u p 1 else nD u p 0
def ip(n:Int):Bool:=aj (aC n 0)&&aj (aC 3 n)
def cA(act item:Int):List aO→Nat→List PWord
 |[],_=>[]
 |s::r,n=>⟨s,act,item,.ofNat n⟩::cA act item r (n+1)
def b0(l:List PWord):List aO:=l.map fun w=>w.text
theorem fT(a i:Int):∀(l:List aO)(n:Nat),(cA a i l n).length=l.length
 |[],_=>rfl
 |s::r,n=>by rw[cA,cT,fT a i r,cT]
mutual
def c9(a i:Int):TUnit→Nat→Nat→TUnit
 |⟨_,_,_,k,l,h,ws,ks⟩,n,w=>⟨a,i,.ofNat (n+1),k,l,cA a i (b0 h) w,cA a i (b0 ws) (w+h.length),fK a i ks (n+1) (w+h.length+ws.length)⟩
def fK(a i:Int):List TUnit→Nat→Nat→List TUnit
 |[],_,_=>[]
 |k::r,n,w=>c9 a i k n w::fK a i r (n+nU k) (w+(m8 k).length)
end
theorem BN(a i:Int)(u:TUnit)(n w:Nat):c9 a i u n w=⟨a,i,.ofNat (n+1),u.kind,u.label,cA a i (b0 u.head) w,cA a i (b0 u.words) (w+u.head.length),fK a i u.kids (n+1) (w+u.head.length+u.words.length)⟩:=by cases u;rw[c9];rfl
theorem E4(a i:Int)(n w:Nat):fK a i [] n w=[]:=by rw[fK]
theorem DX(a i:Int)(k:TUnit)(r:List TUnit)(n w:Nat):fK a i (k::r) n w=c9 a i k n w::fK a i r (n+nU k) (w+(m8 k).length):=by rw[fK]
def vf(part:List aO):Nat→List aO→Nat→List Nat
 |0,_,_=>[]
 |f+1,l,i=>bif Nat.ble (i+part.length) l.length then(bif cN eJ ((l.drop i).take part.length) part then i::vf part f l (i+part.length)else vf part f l (i+1))else[]
def tL(l part:List aO):List Nat:=bif part.isEmpty then[]else vf part (l.length+1) l 0
end Go.Ev
namespace Go.Ev
open Go
def pX(w:PWord):Bool:=aj (ah w.act 0&&(ah w.item 0&&ah w.at_ 0))
def C1(x:TUnit):Bool:=fE bj x&&(aj (x.head.any pX)&&aj (x.words.any pX))
def He(u:TUnit):Bool:=kH u&&vT C1 u
def gM(w:PWord):PWord:=⟨w.text,0,0,0⟩
mutual
def cH:TUnit→TUnit
 |⟨_,_,_,k,l,h,w,ks⟩=>⟨0,0,0,k,l,h.map gM,w.map gM,tq ks⟩
def tq:List TUnit→List TUnit
 |[]=>[]
 |k::r=>cH k::tq r
end
theorem yn:∀(l:List TUnit),tq l=l.map cH
 |[]=>by rw[tq];rfl
 |k::r=>by rw[tq,yn r];rfl
theorem my(u:TUnit):cH u=⟨0,0,0,u.kind,u.label,u.head.map gM,u.words.map gM,u.kids.map cH⟩:=by cases u;rw[cH,yn];rfl
theorem QC{p:PId}{u:TUnit}(h:bA p u=false):gC p u=false:=by unfold gC;rw[zN h];rfl
theorem V5{p:PId}{u:TUnit}(h:gC p u=false):qe p u=bj:=by unfold qe;simp_all
theorem Po{p:PId}{u:TUnit}(h:gC p u=false):o5 p u= -1:=by unfold o5;simp_all
theorem Iv{p:PId}{u:TUnit}(h:gC p u=true):qe p u=bJ (HO p u):=by unfold qe;simp_all
theorem Iy{p:PId}{u:TUnit}(h:gC p u=true):o5 p u=dY (bA p) (HO p u).kids 0:=by unfold o5;simp_all
def ot(p:PId)(u:TUnit)(k:Nat):List PId:=((((aE p u).take ((aE p u).length -1)).drop k).map bJ).reverse
theorem Ex(p:PId)(u:TUnit):ot p u 0=pO p u:=rfl
theorem C4(p:PId)(u:TUnit):ot p u ((aE p u).length -1)=[]:=by
 unfold ot;simp_all
theorem AG(p:PId)(u:TUnit){k:Nat}(h:k+1<(aE p u).length):ot p u k=ot p u (k+1)++[bJ (gD (aE p u) k)]:=by
 unfold ot;have h1:k<((aE p u).take ((aE p u).length -1)).length:=by grind
 rw[Oz h1,eD,List.reverse_cons];grind[gD]
theorem C3(p:PId)(u:TUnit)(k:Nat):(ot p u k).length≤(aE p u).length:=by grind[ot]
def lj(s:PStep)(u:TUnit):List TUnit:=(bu u).filter (bD s)
def dj(s:PStep)(l:List TUnit):List TUnit:=(dA l).filter (bD s)
theorem zQ(s:PStep)(u:TUnit):lj s u=(bif bD s u then[u]else[])++dj s u.kids:=by
 unfold lj dj;rw[de,List.filter_cons];grind
theorem mH(s:PStep):dj s []=[]:=by unfold dj;rw[fS];rfl
theorem gG(s:PStep)(k:TUnit)(r:List TUnit):dj s (k::r)=lj s k++dj s r:=by grind[lj,dj,bM]
theorem md(s:PStep)(u:TUnit):(lj s u).length≤nU u:=by grind[lj,Ff]
theorem sB:∀(l m:List TUnit),eW (l++m)=eW l+eW m
 |[],m=>by rw[mU,wV,fZ]
 |x::r,m=>by rw[wU,bf,bf,sB r m,Nat.add_assoc]
theorem zy(q:TUnit→Bool):∀(l:List TUnit),eW (l.filter q)≤eW l
 |[]=>by simp_all
 |x::r=>by
  rw[List.filter_cons,bf];have:=zy q r;cases q x with
  |true=>rw[if_pos rfl,bf];omega
  |false=>grind
theorem zw(q:TUnit→Bool):∀(l:List TUnit),eW (l.flatMap fun x=>x.kids.filter q)≤eW l
 |[]=>by simp_all
 |x::r=>by
  rw[List.flatMap_cons,sB,bf];have:=zw q r;grind[zy,jK]
theorem KD{n:Nat}:∀(l:List TUnit),(∀x,x∈l→nU x≤n)→eW l≤n*l.length
 |[],_=>by simp_all[mU]
 |x::r,h=>by
  rw[bf,cT,Nat.mul_add,Nat.mul_one];have:=h x (eN ..);have:=KD r fun y hy=>h y (fQ _ hy)
  omega
theorem FE(s:PStep)(u:TUnit)(hp:∀x,x∈bu u→nU x≤nU u):eW (lj s u)≤nU u*nU u:=by
 have h1:=KD (n:=nU u) (lj s u) fun x hx=>hp x (List.mem_filter.1 hx).1
 exact bR h1 (Nat.mul_le_mul_left _ (md s u))
theorem H4(l:List TUnit):ge [] l=l:=rfl
theorem I0{u:TUnit}{p:List PStep}(h:kB p=false):eQ u p=[]:=by unfold eQ;simp_all
theorem Gf{u:TUnit}(h:kB []=true):eQ u []=[u]:=by unfold eQ;simp_all
theorem Gg{u:TUnit}{s:PStep}{r:List PStep}(h:kB (s::r)=true)(hb:nQ s=true):eQ u (s::r)=ge r [u]:=by
 unfold eQ;simp_all
theorem wS{u:TUnit}{s:PStep}{r:List PStep}(h:kB (s::r)=true)(hb:nQ s=false):eQ u (s::r)=ge r (lj s u):=by
 unfold eQ;rw[h];show ge r (bif nQ s then[u]else(bu u).filter (bD s))=_
 rw[hb];rfl
def cn(s:PStep)(l:List TUnit):List TUnit:=l.flatMap fun x=>x.kids.filter (bD s)
section
variable{s:PStep}{l m r r1 X:List TUnit}{w w1:TUnit}{n N:Nat}{rs0:List PStep}{R at0:List TUnit}
theorem IA:cn s []=[]:=rfl
theorem wM:cn s (w::r)=w.kids.filter (bD s)++cn s r:=by grind[cn]
theorem H5(rs:List PStep):ge (s::rs) l=ge rs (cn s l):=rfl
theorem FF:eW (cn s l)≤eW l:=zw _ l
theorem fA(h:R=ge (s::rs0) l∧eW l≤N)(e:cn s []=cn s l):R=ge rs0 []∧eW []≤N:=⟨by rw[h.1,H5,←e];rfl,by simp_all[mU]⟩
theorem fB(h:R=ge (s::rs0) l∧eW l≤N)(e:m++cn s []=cn s l):R=ge rs0 m∧eW m≤N:=by grind[IA,H5,FF]
theorem gA(h:cn s (w1::r1)=X):w1.kids.filter (bD s)++cn s r1=X:=wM.symm.trans h
theorem gB(h:n=m.length∧m++cn s (w1::r1)=X∧m.length+eW (w1::r1)<N):n=m.length∧m++(w1.kids.filter (bD s)++cn s r1)=X∧m.length+(eW w1.kids+eW r1)<N:=⟨h.1,wM (s:=s)▸h.2.1,by grind[bf,jK]⟩
theorem Z8(h:(w::r).filter (bD s)++cn s r1=X)(q:bD s w=false):r.filter (bD s)++cn s r1=X:=by simp_all
theorem Z7(h:n=m.length∧m++((w::r).filter (bD s)++cn s r1)=X∧m.length+(eW (w::r)+eW r1)<N)(q:bD s w=false):n=m.length∧m++(r.filter (bD s)++cn s r1)=X∧m.length+(eW r+eW r1)<N:=⟨h.1,by simp_all,by grind[bf]⟩
theorem Z6(h:n=m.length∧m++((w::r).filter (bD s)++cn s r1)=X∧m.length+(eW (w::r)+eW r1)<N)(q:bD s w=true):n+1=(m++[w]).length∧(m++[w])++(r.filter (bD s)++cn s r1)=X∧(m++[w]).length+(eW r+eW r1)<N:=⟨by simp_all,by simp_all,by grind[Il,bf]⟩
end
section
variable{p:PId}{u:TUnit}{i:Int}{l:List PId}
theorem N0(hn:i=Int.ofNat (aE p u).length -2)(h0:aC i 0=false):[bJ (gD (aE p u) i.toNat)]=ot p u (i-1+1).toNat:=by
 have h0:=aG h0;simp only[aN]at hn;have e:(i-1+1).toNat=i.toNat:=by omega
 rw[e,AG p u (k:=i.toNat) (by omega),show i.toNat+1=(aE p u).length -1 by omega,C4,wV]
theorem Hm(h:l=ot p u (i+1).toNat)(hi:i+2≤(aE p u).length)(h0:aC i 0=false):l++[bJ (gD (aE p u) i.toNat)]=ot p u (i-1+1).toNat:=by
 have h0:=aG h0;grind[AG]
theorem SV(h:l=ot p u (i+1).toNat)(hi: -1≤i)(h0:aC i 0=true):l=pO p u:=by
 have h0:=ap h0;rw[h,show(i+1).toNat=0 by omega,Ex]
theorem SK(hn:i=Int.ofNat (aE p u).length -2)(h0:aC i 0=true):pO p u=[]:=by
 have h0:=ap h0;simp only[aN]at hn;rw[←Ex];have:(aE p u).length -1=0:=by omega
 grind[C4]
end
theorem KY{s:PStep}{l m:List TUnit}(h:dj s l=m)(hm:m≠[]):l≠[]:=by grind[mH]
theorem VH(l:List TUnit){z:AV}(hz:z.top=0):aq (l.map aV++[z])=0:=j9.2 fun x hx=>by grind[iK]
theorem oS{l x r:List TUnit}{w:TUnit}{j:Nat}(h1:l.drop j=x)(h2:x=w::r):nU w+eW r≤eW l:=by
 have e:l=l.take j++(w::r):=by grind[List.take_append_drop]
 grind[sB,bf]
end Go.Ev
namespace Go.Ev
open Go
def qv(l:List aO)(n:Int):Bool:=qa l&&aj (aC (.ofNat l.length) n)
def Bj(n:Int):Bool:=aj (aC n 0)&&aj (aC 256 n)
theorem IR{u:TUnit}(p:List PStep)(h:nU u≤2^11):(eQ u p).length≤2^22:=by
 have key:∀(rs:List PStep)(l:List TUnit),eW (ge rs l)≤eW l:=by
  intro rs;induction rs with
  |nil=>intro l;exact ao _
  |cons s r ih=>grind[H5,FF]
 unfold eQ;cases kB p with
 |false=>simp_all
 | true=>
  simp only[cond_true];cases p with
  |nil=>simp_all
  | cons s r=>
   simp only[];refine bR (x9 _) (bR (key r _) ?_);cases nQ s with
   |true=>grind[bf,mU]
   |false=>
    simp only[cond_false];have h1:=FE s u fun x hx=>dO hx
    have h2:nU u*nU u≤2^11*2^11:=Nat.mul_le_mul h h;exact bR h1 h2
theorem Gs{u:TUnit}{p:List PStep}(h:eQ u p=[]):aF u p=(bj,7):=by grind[aF]
theorem Gr{u x:TUnit}{p:List PStep}(h:eQ u p=[x]):aF u p=(bJ x,0):=by grind[aF]
theorem Gp{u x y:TUnit}{r:List TUnit}{p:List PStep}(h:eQ u p=x::y::r):aF u p=(bj,8):=by grind[aF]
def xk(own:PId)(i:Int)(ok:Bool)(n:Int):PSpot×Int:=bif ok then(⟨own,i+n⟩,0)else(dH,9)
def B6(e:Int)(sp:PSpot)(e2:Int):PSpot×Int:=bif ah e 0 then(bif ah e2 0 then(sp,0)else(dH,e2))else(dH,e)
def nR(p q own:PId)(at_:Int)(ok c bs:Bool)(sp:PSpot)(e:Int):PSpot×Int:=
 bif aj ok||((aj (bh q p)&&c)||(bh q p&&aj bs))then(dH,9)
 else bif bh q p then(⟨own,at_⟩,0)
 else bif ah e 0&&(bh sp.id own&&aC at_ sp.at_)then(⟨sp.id,sp.at_-1⟩,e)else(sp,e)
end Go.Ev
