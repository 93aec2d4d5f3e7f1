/- An abstract machine for runs of the program, proved sound against the model: part 6. No conditions. -/
import Derived.Test.YtaepacpodblomaaGreatDoorMach5
import Derived.Shelf.SortM.Plain
import Derived.Shelf.SortM.SortNone
import Derived.Shelf.SlSortCmp.NoneTotal
import Derived.Shelf.SlicesG.CompactI
import Derived.Lib.QuietBelow
import GoSem.ClaimJoined
import Derived.Calls
import Derived.RunT
import Derived.Below
import Derived.Shelf.Strings.FuncGrows
import Derived.Laws.RangeAny
import Derived.Lib.Join
import Derived.Lib.Repeat
import Derived.Lib.SlTrimSet
namespace Go.Ev
open Go Go.Sort Go.Proofs
section
variable{P:Program}{G:eC}{pl:Pl}{M:dt}{h:AHeap}{w w':World}
theorem th(hr:cG pl M h w){id:Nat}{p:Place}{sz:Nat}{op:Bool}{ep:Nat}{xs xs':List AV}{c c':Array Value}{t:TypeId}(hp:pl id=some p)(hg:h.get id=some (.row sz op ep xs))
  (hb:w.heap[p.blk]?=some (.cells c t (0,0)))(hw:w'.heap[p.blk]?=some (.cells c' t (0,0)))(hcs:c'.size=c.size)(hlen:xs'.length=xs.length)(hel:∀x,x∈xs'→x.cells.length=sz∧Sc x)
  (hcell:∀i x j y,xs'[i]?=some x→x.cells[j]?=some y→VRel pl M y (c'.getD (i*sz+j) undef))(hs:WSame w w')(hsz:w.heap.size≤w'.heap.size)(hk:∀b,b<w.heap.size→b≠p.blk→w'.heap[b]?=w.heap[b]?):
  cG pl M (h.put id (.row sz op ep xs')) w'∧c8 h pl M w (h.put id (.row sz op ep xs')) pl M w':=by
 have ho:=hr.obj id p _ hp hg;rw[hb]at ho;simp only[bA]at ho;obtain⟨h1,h2,h3,h4,h5,h6,h7,h8⟩:=ho;have e:=zW (pl:=pl) hp;have:=cG.change (p':=p) (o':=.row sz op ep xs') hr hp hg (.inl rfl) hs hsz hk (.inl rfl) (wB.1 hw).1 (by
  rw[e,hw];simp only[bA];refine⟨h1,h2,by omega,by omega,trivial,h6,fun e=>by simp_all,⟨?_,hel,fun i x j y q1 q2=>?_⟩⟩
  ·grind[cases InMem]
  simp_all)
 simp_all
variable{β:Type}[Inhabited β]
theorem qR{enc:β→Value}{blk off n:Nat}{d:Array β}{os:Array Obj}{c:Array Value}{t:TypeId}{fr:Nat×Nat}(hb:w.heap[blk]?=some (.cells c t fr)):
  (grow (putRow enc (Sort.ahead w n) blk off d) os).heap[blk]?=some (.cells (putCells enc off d c) t fr):=by
 grind[grow,putRow,mapBlock,Sort.ahead,onCells]
theorem kf{enc:β→Value}{blk off n:Nat}{d:Array β}{os:Array Obj}{b:Nat}(hb:b<w.heap.size)(hne:b≠blk):
  (grow (putRow enc (Sort.ahead w n) blk off d) os).heap[b]?=w.heap[b]?:=by
 simp only[grow,putRow,mapBlock,Sort.ahead];grind
theorem nT{enc:β→Value}{blk off n:Nat}{d:Array β}{os:Array Obj}:WSame w (grow (putRow enc (Sort.ahead w n) blk off d) os):=⟨rfl,rfl,rfl,Nat.le_add_right _ _⟩
theorem CQ{enc:β→Value}{blk off n:Nat}{d:Array β}{os:Array Obj}:w.heap.size≤(grow (putRow enc (Sort.ahead w n) blk off d) os).heap.size:=by simp_all
theorem nP{enc:β→Value}{d:Array β}{c:Array Value}{k:Nat}(hk:k<d.size)(hc:k<c.size):(putCells enc 0 d c).getD k undef=enc d[k]!:=by simp_all[putCells]
theorem qh(hr:cG pl M h w){id ep len sz:Nat}{op:Bool}{cap:Option Nat}{xs:List AV}{x:Value}(hv:VRel pl M (.slice id ep 0 len cap) x)(hg:h.get id=some (.row sz op ep xs))(hl:0<len):
  ∃p c t cap',pl id=some p∧w.heap[p.blk]?=some (.cells c t (0,0))∧x=.slice (some ⟨p.blk,0,none⟩) len cap'∧InMem pl M c 0 sz xs∧0<sz∧p.blk<w.heap.size:=by
 cases hv with
 | slice hp he hle hk ha=>
  rename_i cap' a p;have ho:=hr.obj id p _ hp hg;cases hb:w.heap[p.blk]? with
  |none=>grind[bA]
  |some ob=>
   rw[hb]at ho;cases ob<;>simp only[bA]at ho
   rename_i c t fr;obtain⟨h1,h2,h3,h4,h5,h6,h7,h8⟩:=ho;subst h5;obtain⟨k1,_⟩:=ha (by omega);have k2:a=⟨p.blk,0,none⟩:=by grind
   exact⟨p,c,t,_,hp,hb,by rw[k2],h8,h6,(wB.1 hb).1⟩
def bK(zs:List Int):List Int:=zs.mergeSort fun x y=>decide (x≤y)
theorem jD(zs:List Int):(bK zs).Perm zs:=List.mergeSort_perm ..
theorem pQ(zs:List Int):(bK zs).Pairwise (fun a b=>a≤b):=by
 have:=List.pairwise_mergeSort (le:=fun x y:Int=>decide (x≤y)) (by grind) (by grind) zs;exact this.imp (by simp)
theorem DV{c:Array Value}{sz:Nat}{xs:List AV}(hm:InMem pl M c 0 sz xs){i:Nat}{x:AV}(hx:xs[i]?=some x){j:Nat}(hj:j<sz):i*sz+j<c.size∧∃y,x.cells[j]?=some y∧VRel pl M y (c.getD (i*sz+j) undef):=by
 have h1:=hm.fit;have hi:=(gn.1 hx).1;have h2:=(hm.elem x (bm hx)).1;have h3:(i+1)*sz≤xs.length*sz:=eu _ hi;rw[jN]at h3;refine⟨by omega,x.cells[j],by simp_all,?_⟩;have:=hm.cell i x j _ hx (lw (by omega:j<x.cells.length));simp_all
theorem sf{f:FuncId}(hE:∀vs w,(callFunc f vs).run P w=.ok (.enter f vs) w)
  (hC:∀(blk off cap:Nat)(zs:List Int)(w:World),Holds (Value.int .i64) w blk off zs.toArray→blk<w.heap.size→zs.length<4611686018427387904→
   Calls P f #[.slice (some ⟨blk,off,none⟩) zs.length cap] w fun e w'=>e=.returned (.tuple #[])∧∃n os,w'=grow (putRow (Value.int .i64) (Sort.ahead w n) blk off (zs.mergeSort fun x y=>decide (x≤y)).toArray) os)
  {id ep:Nat}{op:Bool}{cap:Option Nat}(zs:List Int)(hg:h.get id=some (.row 1 op ep (zs.map aw)))(hz:0<zs.length)(hb:zs.length<4611686018427387904):
  aL P G f [.slice id ep 0 zs.length cap] h (fun v h'=>v=.tuple []∧h'=h.put id (.row 1 op ep ((bK zs).map aw))):=by
 intro pl M w vs hG hr hv;obtain⟨a,rfl,hv1⟩:=SS hv;obtain⟨p,c,t,cap',hp,hbl,rfl,hm,_,hlt⟩:=qh hr hv1 hg hz;have hcell:∀j z,zs[j]?=some z→j<c.size∧c.getD j undef=.int .i64 z:=by
  intro j z hj;have hx:(zs.map aw)[j]?=some (aw z):=by simp_all
  obtain⟨q1,y,q2,q3⟩:=DV hm hx (j:=0) (by omega);rw[Nat.mul_one,pE]at q1 q3;simp[aw,AV.cells]at q2;subst q2;refine⟨q1,?_⟩;cases hq:c.getD j undef<;>rw[hq]at q3<;>cases q3
  rfl
 refine .inl ⟨hE _ _,Calls.mono (hC p.blk 0 cap' zs w (fun j hj=>?_) hlt hb) fun e w' ⟨he,n,os,hw⟩=>?_⟩
 ·have hj':j<zs.length:=by omega
  obtain⟨q1,q2⟩:=hcell j zs[j] (lw hj');rw[ei];refine⟨?_,?_⟩
  ·simp only[World.cell?,hbl];simp only[Option.isSome_none,gi,if_false];rw[Fa q1];simp_all
  grind[World.frozen?]
 ·refine⟨.tuple #[],.tuple [],_,he,⟨rfl,rfl⟩,pl,M,ri,?_⟩;have hlen:(bK zs).length=zs.length:=(jD zs).length_eq;have hw1:w'.heap[p.blk]?=some (.cells (putCells (Value.int .i64) 0 (bK zs).toArray c) t (0,0)):=by rw[hw];exact qR hbl
  obtain⟨r1,r2⟩:=th (w':=w') (xs':=(bK zs).map aw) hr hp hg hbl hw1 (by simp[putCells]) (by simp_all) (fun x hx=>by
    obtain⟨z,_,rfl⟩:=ku.1 hx;exact⟨rfl,fun y hy=>by simp[aw,AV.cells]at hy;subst hy;rfl⟩) (fun i x j y q1 q2=>by
    rw[qv]at q1;obtain⟨z,e1,rfl⟩:=Fy.1 q1;have hi:=(gn.1 e1).1;cases j with
    |succ j=>grind[aw,AV.cells]
    |zero=>
     simp[aw,AV.cells]at q2;subst q2;rw[Nat.mul_one,pE,nP (by omega) (hcell i zs[i] (lw (by omega))).1];have:(bK zs).toArray[i]! =z:=by simp_all
     rw[this];exact .int _ _) (by grind[nT]) (by simp_all) (fun b hb hne=>by grind[kf])
  exact⟨r1,r2,aB _⟩
def an(zs:List Int):List Int:=Lib.compact zs
theorem xu(zs:List Int):(an zs).length≤zs.length:=by grind[an,Lib.compact,Lib.compactUpTo]
theorem oC{f:FuncId}(hE:∀vs w,(callFunc f vs).run P w=.ok (.enter f vs) w)
  (hC:∀(blk off cap:Nat)(zs:List Int)(w:World),Holds (Value.int .i64) w blk off zs.toArray→zs.length≤9223372036854775807→zs.length≤cap→
   Calls P f #[.slice (some ⟨blk,off,none⟩) zs.length cap] w fun e w'=>e=.returned (.slice (some ⟨blk,off,none⟩) (Lib.compact zs).length cap)∧∃q,w'=putRow (Value.int .i64) (Sort.ahead w q) blk off (Lib.compact zs++List.replicate (zs.length-(Lib.compact zs).length) 0).toArray)
  {id ep:Nat}{op:Bool}(zs:List Int)(hg:h.get id=some (.row 1 op ep (zs.map aw)))(hz:0<zs.length)(hb:zs.length<4611686018427387904):
  aL P G f [.slice id ep 0 zs.length none] h (fun v h'=>v=.slice id ep 0 (an zs).length none∧h'=h.put id (.row 1 op ep ((an zs++List.replicate (zs.length-(an zs).length) 0).map aw))):=by
 intro pl M w vs hG hr hv;obtain⟨a,rfl,hv1⟩:=SS hv;obtain⟨p,c,t,cap',hp,hbl,rfl,hm,_,hlt⟩:=qh hr hv1 hg hz;have hcell:∀j z,zs[j]?=some z→j<c.size∧c.getD j undef=.int .i64 z:=by
  intro j z hj;have hx:(zs.map aw)[j]?=some (aw z):=by simp_all
  obtain⟨q1,y,q2,q3⟩:=DV hm hx (j:=0) (by omega);rw[Nat.mul_one,pE]at q1 q3;simp[aw,AV.cells]at q2;subst q2;refine⟨q1,?_⟩;cases hq:c.getD j undef<;>rw[hq]at q3<;>cases q3
  rfl
 have hle:=xu zs;have hcap:zs.length≤cap':=by grind[cases VRel]
 generalize hnew:an zs++List.replicate (zs.length-(an zs).length) 0=ns;have hnl:ns.length=zs.length:=by grind
 refine .inl ⟨hE _ _,Calls.mono (hC p.blk 0 cap' zs w (fun j hj=>?_) (by omega) hcap) fun e w' ⟨he,n,hw⟩=>?_⟩
 ·have hj':j<zs.length:=by omega
  obtain⟨q1,q2⟩:=hcell j zs[j] (lw hj');rw[ei];refine⟨?_,?_⟩
  ·simp only[World.cell?,hbl];simp only[Option.isSome_none,gi,if_false];rw[Fa q1];simp_all
  grind[World.frozen?]
 ·have hw2:w'=grow (putRow (Value.int .i64) (Sort.ahead w n) p.blk 0 ns.toArray) #[]:=by rw[hw,grow_empty];congr 2
  have hrel:VRel pl M (.slice id ep 0 (an zs).length none) (.slice (some ⟨p.blk,0,none⟩) (an zs).length cap'):=by
   cases hv1 with
   |slice hp he hl hk ha=>
    refine .slice hp he (by omega) hk fun e=>?_
    grind
  refine⟨_,_,_,he,⟨rfl,rfl⟩,pl,M,hrel,?_⟩;have hw1:w'.heap[p.blk]?=some (.cells (putCells (Value.int .i64) 0 ns.toArray c) t (0,0)):=by grind[qR]
  obtain⟨r1,r2⟩:=th (w':=w') (xs':=ns.map aw) hr hp hg hbl hw1 (by simp[putCells]) (by simp_all) (fun x hx=>by
    obtain⟨z,_,rfl⟩:=ku.1 hx;exact⟨rfl,fun y hy=>by simp[aw,AV.cells]at hy;subst hy;rfl⟩) (fun i x j y q1 q2=>by
    rw[qv]at q1;obtain⟨z,e1,rfl⟩:=Fy.1 q1;have hi:=(gn.1 e1).1;cases j with
    |succ j=>grind[aw,AV.cells]
    |zero=>
     simp[aw,AV.cells]at q2;subst q2;rw[Nat.mul_one,pE,nP (by omega) (hcell i zs[i] (lw (by omega))).1];have:ns.toArray[i]! =z:=by simp_all
     rw[this];exact .int _ _) (by grind[nT]) (by simp_all) (fun b hb hne=>by grind[kf])
  exact⟨r1,r2,aB _⟩
theorem DR{f:FuncId}(hE:∀vs w,(callFunc f vs).run P w=.ok (.enter f vs) w)
  (hC:∀(p:Option Addr)(cap:Nat)(w:World),Calls P f #[.slice p 0 cap] w fun e w'=>e=.returned (.tuple #[])∧w'=w):aC P G f [.nils] (.tuple []):=by
 intro h pl M w vs hG hr hv;obtain⟨a,rfl,hv1⟩:=SS hv;cases hv1
 exact .inl ⟨hE _ _,Calls.mono (hC none 0 w) fun e w' ⟨he,hw⟩=>⟨.tuple #[],.tuple [],h,he,⟨rfl,rfl⟩,pl,M,ri,by simp_all[StepF.refl]⟩⟩
theorem vC{f:FuncId}{g:Fn}(hE:∀vs w,(callFunc f vs).run P w=.ok (.enter f vs) w)
  (hC:∀(p:Option Addr)(cap:Nat)(fv:Value)(w:World),Calls P f #[.slice p 0 cap,fv] w fun e w'=>e=.returned (.tuple #[])∧w'=w):aC P G f [.nils,.func g [] []] (.tuple []):=by
 intro h pl M w vs hG hr hv;obtain⟨a,b,rfl,hv1,hv2⟩:=Bp hv;cases hv1
 exact .inl ⟨hE _ _,Calls.mono (hC none 0 b w) fun e w' ⟨he,hw⟩=>⟨.tuple #[],.tuple [],h,he,⟨rfl,rfl⟩,pl,M,ri,by simp_all[StepF.refl]⟩⟩
def Ec{α:Type}(cmp:α→α→Int)(a b:α):Bool:=decide (cmp a b<0)
theorem BS{f g:FuncId}{sz:Nat}(hGT:jW G)(hE:∀vs w,(callFunc f vs).run P w=.ok (.enter f vs) w)(hg2:∀args w,(callFunc g args).run P w=.ok (.enter g args) w)
  (hC:∀(m:Nat)(enc:Fin (m+1)→List Value)(cf:Fin (m+1)→Fin (m+1)→Int)(blk off cap:Nat)(d:Array (Fin (m+1)))(w:World),(∀x,(enc x).length=sz)→(∀x,∀v∈enc x,v.oneCell'=true)→SWO (ltOf cf)→
   CmpLays P g #[] enc sz cf blk off d.size w→HoldsK enc sz w blk off d→blk<w.heap.size→d.size<4611686018427387904→
   Calls P f #[.slice (some ⟨blk,off,none⟩) d.size cap,.func (.func g) #[] #[]] w fun e w'=>e=.returned (.tuple #[])∧∃d' n os,PermIn 0 d.size d d'∧SortedIn (ltOf cf) 0 d.size d'∧w'=sortWorldK enc sz w blk off n d' os)
  {α:Type}[Inhabited α](enc:α→AV)(cmp:α→α→Int)(hO:SWO (Ec cmp))(hag:∀a,∃cs,enc a=.agg cs)(htop:∀a,(enc a).top=0)
  (l:List α)(hcmp:∀a,a∈l→∀b,b∈l→aC P G g [enc a,enc b] (.int .i64 (cmp a b)))
  {oid ep:Nat}{op:Bool}{cap:Option Nat}(hg:h.get oid=some (.row sz op ep (l.map enc)))(hz:0<l.length)(hb:l.length<4611686018427387904):
  aL P G f [.slice oid ep 0 l.length cap,.func (.func g) [] []] h (fun v h'=>∃l':List α,(l'.Perm l∧l'.Pairwise fun a b=>Ec cmp b a=false)∧v=.tuple []∧h'=h.put oid (.row sz op ep (l'.map enc))):=by
 intro pl M w vs hG hr hv;obtain⟨a,fv,rfl,hv1,hv2⟩:=Bp hv;have e2:=zB hv2;subst e2;obtain⟨p,c,t,cap',hp,hbl,rfl,hm,hsz0,hlt⟩:=qh hr hv1 hg hz;obtain⟨m,hm1⟩:∃m,l.length=m+1:=⟨l.length-1,by omega⟩
 have hfit:=hm.fit;rw[cZ,ei,hm1]at hfit;have helem:∀i:Fin (m+1),(l.map enc)[i.1]?=some (enc l[i.1]!):=fun i=>by
  have:=i.2;rw[qv,lw (by omega),getElem!_pos l i.1 (by omega)];rfl
 have hmul:∀i:Fin (m+1),i.1*sz+sz≤(m+1)*sz:=fun i=>by have:=eu sz (Nat.succ_le_of_lt i.2);rwa[qa]at this
 generalize hcof:(fun i:Fin (m+1)=>(List.range sz).map fun j=>c.getD (i.1*sz+j) undef)=cellsOf;have cl:∀i,(cellsOf i).length=sz:=fun i=>by rw[←hcof];simp
 have cg:∀i j,j<sz→(cellsOf i)[j]?=some (c.getD (i.1*sz+j) undef):=fun i j hj=>by rw[←hcof];simp[hj]
 generalize hd:(Array.ofFn (n:=m+1) id)=d;have hds:d.size=m+1:=by rw[←hd];simp
 have hdg:∀j (hj:j<m+1),d[j]! =⟨j,hj⟩:=fun j hj=>by rw[getElem!_pos d j (by omega)];subst hd;simp
 have hflat:∀(dk:Array (Fin (m+1))),dk.size=m+1→∀i j,i<m+1→j<sz→(flatK cellsOf sz dk)[i*sz+j]! =c.getD ((dk[i]!).1*sz+j) undef:=fun dk hdk i j hi hj=>by
  have h1:i*sz+j<dk.size*sz:=by have:=eu sz (Nat.succ_le_of_lt hi);rw[qa]at this;rw[hdk];omega
  rw[get_flatK cellsOf sz dk _ h1];have h2:(i*sz+j)/sz=i:=by rw[Nat.mul_comm,Nat.mul_add_div hsz0,Nat.div_eq_of_lt hj,pE]
  have h3:(i*sz+j)%sz=j:=by rw[Nat.mul_comm,Nat.mul_add_mod,Nat.mod_eq_of_lt hj]
  rw[h2,h3,getElem!_pos _ j (by rw[cl];exact hj)];have:=cg (dk[i]!) j hj;rw[lw (by rw[cl];exact hj)]at this;simpa using this
 have hH:HoldsK cellsOf sz w p.blk 0 d:=by
  intro k hk;rw[size_flatK,hds]at hk;have hi:k/sz<m+1:=Nat.div_lt_of_lt_mul (by rw[Nat.mul_comm];exact hk);have hj:k%sz<sz:=Nat.mod_lt _ hsz0;have hk2:k/sz*sz+k%sz=k:=by rw[Nat.mul_comm];exact Nat.div_add_mod k sz
  have:=hflat d hds (k/sz) (k%sz) hi hj;rw[hdg _ hi,hk2]at this;rw[this,ei];have hkc:k<c.size:=by omega
  refine⟨?_,by simp[World.frozen?,hbl]⟩;simp only[World.cell?,hbl];simp only[Option.isSome_none,gi,if_false];rw[Fa hkc];simp[Array.getD,hkc]
 have hrelE:∀(i:Fin (m+1)) cs,enc l[i.1]! =.agg cs→cs.length=sz∧(∀y,y∈cs→cL y=true)∧∀(j:Nat)(y:AV),cs[j]?=some y→VRel pl M y (c.getD (i.1*sz+j) undef):=by
  intro i cs hcs;have h1:=hm.elem _ (bm (helem i));rw[hcs]at h1;refine⟨h1.1,h1.2,fun j y hj=>?_⟩;have:=hm.cell i.1 _ j y (helem i) (by rw[hcs];exact hj);rwa[ei]at this
 have hone:∀i,∀v∈cellsOf i,v.oneCell'=true:=by
  intro i v hvm;obtain⟨j,hj,e⟩:=Fv hvm;rw[cl]at hj;have h1:=cg i j hj;rw[lw (by rw[cl];exact hj),e]at h1;obtain⟨cs,hcs⟩:=hag l[i.1]!;obtain⟨k1,k2,k3⟩:=hrelE i cs hcs;have:=k3 j cs[j] (lw (by omega));cases h1
  exact this.one (k2 _ (DI _))
 have hmemL:∀i:Fin (m+1),l[i.1]!∈l:=fun i=>by
  have:=i.2;rw[getElem!_pos l i.1 (by omega)];exact DI _
 have hlays:CmpLays P g #[] cellsOf sz (fun i j=>cmp l[i.1]! l[j.1]!) p.blk 0 d.size w:=by
  intro n os dk hdk x y;generalize hW:sortWorldK cellsOf sz w p.blk 0 n dk os=W;have hWo:∀b,b<w.heap.size→b≠p.blk→W.heap[b]?=w.heap[b]?:=fun b h1 h2=>by rw[←hW];exact kf h1 h2
  have hrW:cG (fun _=>none) M AHeap.none W:=qr (pl:=fun _=>none) (n:=0) (g:=AHeap.none.get) ⟨fun _ _ h=>by simp at h,fun _ _ _ h=>by simp at h,fun _ _ h=>by simp at h,fun _ _ _ _ h=>by simp at h,fun b c' hM=>by
   obtain⟨t',fr,q⟩:=hr.imm b c' hM;refine⟨t',fr,?_⟩;rw[hWo b (hr.memLt hM) (fun e=>by have:=hr.sep oid p hp;rw[←e,hM]at this;cases this)];exact q,fun _ _ h=>by simp at h⟩
  have hrel:∀i:Fin (m+1),VRel (fun _=>none) M (enc l[i.1]!) (.agg (cellsOf i).toArray):=by
   intro i;obtain⟨cs,hcs⟩:=hag l[i.1]!;obtain⟨k1,k2,k3⟩:=hrelE i cs hcs;have ht:=htop l[i.1]!;rw[hcs]at ht ⊢;refine .agg (by simp[cl,k1]) k2 fun j y hj=>?_
   have hj':j<sz:=by rw[←k1];exact(gn.1 hj).1
   have e:(cellsOf i).toArray.getD j undef=c.getD (i.1*sz+j) undef:=by
    have:=cg i j hj';rw[gO,n9,this];rfl
   rw[e];exact(k3 j y hj).none (kK.1 ht y (bm hj))
  have hc:=hcmp _ (hmemL x) _ (hmemL y) AHeap.none (fun _=>none) M W #[.agg (cellsOf x).toArray,.agg (cellsOf y).toArray] (hG.none hGT) hrW ⟨rfl,fun j z hj=>by
   match j,hj with
   |0,hj=>cases hj;exact hrel x
   |1,hj=>cases hj;exact hrel y⟩
  rcases hc with⟨h1,h2⟩|⟨cv,w',v,h',h1,h2,h3⟩
  ·refine Calls.mono h2 fun e w' ⟨cv,v,h',k1,k2,pl',M',k3,k4,k5,k6⟩=>?_
   obtain⟨k2,_⟩:=k2;subst k2;cases k3
   refine⟨k1,?_⟩;obtain⟨q,hq⟩:=regrown_of_below (w:=W) (w':=w') ⟨k5.os,k5.tape,k5.out,k5.size,fun b hb=>k5.kept b hb fun id p h=>by simp at h⟩;refine⟨w'.drawn-W.drawn,q.os,?_⟩;have hd1:w'.drawn=q.d:=by rw[hq];rfl
   have hd2:=k5.drawn;have:redrawn W q.d=W.drewN (w'.drawn-W.drawn):=by
    show({W with drawn:=q.d}:World)={W with drawn:=W.drawn+(w'.drawn-W.drawn)}
    congr 1;omega
   rw[←this];exact hq
  ·rw[hg2]at h1;cases h1
 refine .inl ⟨hE _ _,?_⟩;have hcall:=hC m cellsOf (fun i j=>cmp l[i.1]! l[j.1]!) p.blk 0 cap' d w cl hone ⟨fun x=>hO.irrefl _,fun x y z=>hO.trans _ _ _,fun x y z=>hO.ntrans _ _ _⟩ hlays hH hlt (by omega);rw[show d.size=l.length by omega]at hcall;refine Calls.mono hcall fun e w' ⟨he,d',n,os,hP,hS,hw⟩=>?_
 obtain⟨hp1,_,hp3⟩:=hP;have hd's:d'.size=m+1:=by omega
 have hperm:d'.toList.Perm d.toList:=by
  have e1:d'.extract 0 l.length=d':=by rw[show l.length=d'.size by omega];exact Array.extract_size
  have e2:d.extract 0 l.length=d:=by rw[show l.length=d.size by omega];exact Array.extract_size
  rwa[e1,e2]at hp3
 have hdl:d.toList.map (fun i=>l[i.1]!)=l:=by
  apply List.ext_getElem?;intro i;by_cases hi:i<l.length
  ·rw[qv,Array.getElem?_toList,Fa (by omega),lw hi];have:=hdg i (by omega);rw[getElem!_pos d i (by omega)]at this;rw[this];show some (l[i]!)=some l[i]
   rw[getElem!_pos l i hi]
  ·rw[List.getElem?_eq_none (by simp;omega),List.getElem?_eq_none (by omega)]
 have hl':(d'.toList.map (fun i=>l[i.1]!)).length=l.length:=by simp;omega
 refine⟨.tuple #[],.tuple [],_,he,⟨d'.toList.map (fun i=>l[i.1]!),⟨?_,?_⟩,rfl,rfl⟩,pl,M,ri,?_⟩
 ·have:=hperm.map (fun i=>l[i.1]!);rwa[hdl]at this
 ·rw[KA];intro i j hi hj hij;have hi':i<d'.size:=by simpa using hi
  have hj':j<d'.size:=by simpa using hj
  have:=hS i j (bL _) hij (by omega);rw[getElem!_pos d' i hi',getElem!_pos d' j hj']at this;simpa[Ec,ltOf]using this
 ·have hw1:w'.heap[p.blk]?=some (.cells (putCells id 0 (flatK cellsOf sz d') c) t (0,0)):=by rw[hw];exact qR hbl
  obtain⟨r1,r2⟩:=th (w':=w') (xs':=(d'.toList.map (fun i=>l[i.1]!)).map enc) hr hp hg hbl hw1 (by simp[putCells]) (by simp;omega) (fun x hx=>by
    obtain⟨z,h1,rfl⟩:=ku.1 hx;obtain⟨i,_,rfl⟩:=ku.1 h1;exact hm.elem _ (bm (helem i))) (fun i x j y q1 q2=>by
    rw[qv,qv,Array.getElem?_toList]at q1;obtain⟨z,e1,rfl⟩:=Fy.1 q1;obtain⟨k,e2,rfl⟩:=Fy.1 e1;have hi:i<d'.size:=(wB.1 e2).1;obtain⟨cs,hcs⟩:=hag l[k.1]!;obtain⟨k1,k2,k3⟩:=hrelE k cs hcs;rw[hcs]at q2;have hj:j<sz:=by rw[←k1];exact(gn.1 q2).1
    have hb1:i*sz+j<(m+1)*sz:=by have:=eu sz (Nat.succ_le_of_lt (show i<m+1 by omega));rw[qa]at this;omega
    rw[nP (by rw[size_flatK,hd's];exact hb1) (by omega)];have:=hflat d' hd's i j (by omega) hj;have e3:d'[i]! =k:=by rw[getElem!_pos d' i hi];rw[Fa hi]at e2;simpa using e2
    rw[e3]at this;show VRel pl M y (flatK cellsOf sz d')[i*sz+j]!
    rw[this];exact k3 j y q2) (by rw[hw];exact nT) (by rw[hw];exact CQ) (fun b hb hne=>by rw[hw];exact kf hb hne)
  exact⟨r1,r2,aB _⟩
end
end Go.Ev
namespace Go.Ev
open Go
theorem yH(a b:Int):aF (jp a b) 0=aF a b:=by
 unfold jp;cases h:aF a b with
 |true=>rfl
 |false=>cases h2:aF b a<;>rfl
noncomputable def mJ(l:List PSpan)(d:Int):Nat:=(l.takeWhile fun s=>aF s.from_ d).length
theorem yG(l:List PSpan)(d:Int):mJ l d≤l.length:=by
 induction l with
 |nil=>simp[mJ]
 |cons a r ih=>grind[mJ,List.takeWhile_cons]
def sr(l:List PSpan):Prop:=l.Pairwise fun a b=>a.from_≤b.from_
theorem vJ{d:Int}:∀{l:List PSpan},sr l→∀k,k<l.length→(aF (gD l k).from_ d=true↔k<mJ l d)
 |[],_,k,h=>by simp_all
 | a::r,hs,k,h=>by
  obtain⟨h1,h2⟩:=ji.1 hs;unfold mJ;rw[List.takeWhile_cons];cases q:aF a.from_ d with
  | true=>
   simp only[if_true,cR];cases k with
   |zero=>grind[gD]
   |succ k=>
    have:=vJ (d:=d) h2 k (by simp_all);rw[show gD (a::r) (k+1)=gD r k from rfl,this];grind[mJ]
  |false=>
   simp only[gi,if_false,gN,qx,iff_false,Bool.not_eq_true];have hd:=aG q;grind[fR,iO]
noncomputable def GS(l:List PSpan)(d:Int):Bool:=aF (Int.ofNat (mJ l d)) (Int.ofNat l.length)&&af (jp (gD l (mJ l d)).from_ d) 0
theorem PW{l:List PSpan}(h:l.Pairwise fun a b=>a.to<b.from_)(h2:∀s,s∈l→s.from_<s.to):sr l:=by
 induction l with
 |nil=>exact .nil
 |cons a r ih=>
  obtain⟨h3,h4⟩:=ji.1 h;refine ji.2 ⟨fun b hb=>?_,ih h4 fun s hs=>h2 s (eW _ hs)⟩;grind
structure NrmS(l:List PSpan):Prop where
 gap:l.Pairwise fun a b=>a.to<b.from_
 ok:∀s,s∈l→0≤s.from_∧s.from_<s.to∧s.to≤1048577
theorem NrmS.sort{l:List PSpan}(h:NrmS l):sr l:=PW h.gap fun s hs=>(h.ok s hs).2.1
theorem Io:∀{l:List PSpan}{b:Int},l.Pairwise (fun a b=>a.to<b.from_)→(∀s,s∈l→b≤s.from_∧s.from_<s.to∧s.to≤1048577)→b≤1048577→Int.ofNat l.length≤1048577-b
 |[],b,_,_,hb=>by simp_all
 |a::r,b,h,h2,hb=>by
  obtain⟨h3,h4⟩:=ji.1 h;have h5:=h2 a (dI ..);have:=Io (l:=r) (b:=b+1) h4 (fun s hs=>by grind) (by omega);grind
theorem NrmS.len{l:List PSpan}(h:NrmS l):l.length≤1048577:=by
 have:=Io (b:=0) h.gap h.ok (by omega);grind
noncomputable def iZ(l:List PSpan)(d:Int):Bool:=GS l d||(aF 0 (Int.ofNat (mJ l d))&&aF d (gD l (mJ l d-1)).to)
theorem QO{l:List PSpan}(h:NrmS l){d:Int}(hd:d<0∨1048576<d):iZ l d=false:=by
 have hs:=h.sort;have hi:=vJ (d:=d) hs;have hc:=yG l d;unfold iZ GS;rcases hd with hd|hd
 ·have h0:mJ l d=0:=by
   rcases Nat.eq_zero_or_pos (mJ l d)with e|e
   ·omega
   ·have h1:=(hi 0 (by omega)).2 e;have:=ar h1;grind[fR,cases NrmS]
  rw[h0];have e2:aF 0 (Int.ofNat 0)=false:=by rfl
  rw[e2,wt,Bool.or_false];cases hl:aF (Int.ofNat 0) (Int.ofNat l.length)with
  |false=>rfl
  | true=>
   have hlt:=ar hl;simp only[aP]at hlt;have:=h.ok (gD l 0) (fR (by omega));have e3:af (jp (gD l 0).from_ d) 0=false:=by
    unfold jp;rw[iO (by omega),kF (by omega)];rfl
   simp_all
 ·have h0:mJ l d=l.length:=by
   rcases fu (mJ l d) l.length with e|e
   all_goals grind[fR,kF,cases NrmS]
  rw[h0,iO (by omega),wt,Bool.false_or];cases hl:aF 0 (Int.ofNat l.length)with
  |false=>rfl
  |true=>
   have hlt:=ar hl;simp only[aP]at hlt;have:=h.ok (gD l (l.length-1)) (fR (by omega));rw[iO (by omega)];rfl
theorem Ej(a b:Int):C4 a b=max a b:=by
 unfold C4;cases h:aF a b with
 |true=>have:=ar h;grind
 |false=>have:=aG h;grind
theorem Ek(a b:Int):Lp a b=min a b:=by
 unfold Lp;cases h:aF b a with
 |true=>have:=ar h;grind
 |false=>have:=aG h;grind
noncomputable abbrev Wr(s:PSpan):PSpan:=⟨C4 s.from_ 0,Lp s.to 1048577⟩
noncomputable abbrev Yn(s:PSpan):Bool:=aF (C4 s.from_ 0) (Lp s.to 1048577)
noncomputable def jr:List PSpan→List PSpan
 |[]=>[]
 |s::r=>match Yn s with|true=>Wr s::jr r|false=>jr r
theorem vV{s:PSpan}{r:List PSpan}(h:Yn s=true):jr (s::r)=Wr s::jr r:=by grind[jr]
theorem vY{s:PSpan}{r:List PSpan}(h:Yn s=false):jr (s::r)=jr r:=by grind[jr]
theorem Dp:∀(l:List PSpan),(jr l).length≤l.length
 |[]=>by simp[jr]
 |s::r=>by
  have:=Dp r;cases h:Yn s with
  |true=>grind[vV]
  |false=>grind[vY]
theorem BU:∀{l:List PSpan}{s:PSpan},s∈jr l→0≤s.from_∧s.from_<s.to∧s.to≤1048577
 | a::r,s,hs=>by
  cases h:Yn a with
  |true=>
   rw[vV h]at hs;rcases fQ.1 hs with e|e
   ·subst e;have h2:=ar h;grind[Ej,Ek]
   ·exact BU e
  |false=>rw[vY h]at hs;exact BU hs
def memB(l:List PSpan)(d:Int):Bool:=l.any fun s=>decide (s.from_≤d∧d<s.to)
def Fw(d:Int):Bool:=decide (0≤d∧d<1048577)
theorem mS(d:Int):memB [] d=false:=rfl
theorem eZ(a:PSpan)(l:List PSpan)(d:Int):memB (a::l) d=(decide (a.from_≤d∧d<a.to)||memB l d):=rfl
theorem AU(l r:List PSpan)(d:Int):memB (l++r) d=(memB l d||memB r d):=by simp[memB]
theorem gq{l:List PSpan}{d:Int}:memB l d=true↔∃s,s∈l∧s.from_≤d∧d<s.to:=by simp[memB]
theorem N3{l r:List PSpan}(h:l.Perm r)(d:Int):memB l d=memB r d:=by
 rw[xI,gq,gq];grind
theorem Do:∀(l:List PSpan)(d:Int),memB (jr l) d=(Fw d&&memB l d)
 |[],d=>by simp[jr,memB]
 | a::r,d=>by
  have ih:=Do r d;have e:∀b:Bool,(b=decide (0≤d∧d<1048577∧a.from_≤d∧d<a.to))→(b||(Fw d&&memB r d))=(Fw d&&memB (a::r) d):=fun b hb=>by grind[eZ,Fw]
  cases h:Yn a with
  |true=>
   rw[vV h,eZ,ih];refine e _ ?_;simp only[Ej,Ek];grind
  |false=>
   rw[vY h,ih];have h2:=aG h;simp only[Ej,Ek]at h2;grind
theorem NrmS.tail{a:PSpan}{r:List PSpan}(h:NrmS (a::r)):NrmS r:=⟨(ji.1 h.gap).2,fun s hs=>h.ok s (eW _ hs)⟩
theorem NrmS.low{a x:PSpan}{r:List PSpan}(h:NrmS (a::r))(hx:x∈r):a.to<x.from_:=(ji.1 h.gap).1 x hx
theorem NrmS.head{a:PSpan}{r:List PSpan}(h:NrmS (a::r)):0≤a.from_∧a.from_<a.to∧a.to≤1048577:=h.ok a (dI ..)
theorem yl:NrmS []:=⟨.nil,fun s h=>by grind⟩
theorem rC{a:PSpan}{r:List PSpan}(h:NrmS (a::r)):memB (a::r) a.from_=true:=by grind[eZ,cases NrmS]
theorem Gh{a:PSpan}{r:List PSpan}(h:NrmS (a::r)){d:Int}(hd:memB (a::r) d=true):a.from_≤d:=by
 obtain⟨s,h1,h2,h3⟩:=gq.1 hd;rcases fQ.1 h1 with e|e
 ·simp_all
 ·have:=h.low e;grind[cases NrmS]
theorem QB{a:PSpan}{r:List PSpan}(h:NrmS (a::r)):memB (a::r) a.to=false:=by
 cases q:memB (a::r) a.to with
 |false=>rfl
 |true=>
  obtain⟨s,h1,h2,h3⟩:=gq.1 q;rcases fQ.1 h1 with e|e
  ·simp_all
  ·have:=h.low e;omega
theorem Gg{a:PSpan}{r:List PSpan}(h:NrmS (a::r))(d:Int):memB r d=(decide (a.to≤d)&&memB (a::r) d):=by
 rw[eZ];by_cases h1:a.to≤d
 ·grind
 ·have:memB r d=false:=by
   cases q:memB r d with
   |false=>rfl
   |true=>
    obtain⟨s,h2,h3,h4⟩:=gq.1 q;have:=h.low h2;omega
  grind
theorem zT:∀{r s:List PSpan},NrmS r→NrmS s→(∀d,memB r d=memB s d)→r=s
 |[],[],_,_,_=>rfl
 |[],b::s,_,hs,h=>by grind[rC,mS]
 |a::r,[],hr,_,h=>by grind[rC,mS]
 | a::r,b::s,hr,hs,h=>by
  have h1:b.from_≤a.from_:=Gh hs (by grind[rC]);have h2:a.from_≤b.from_:=Gh hr (by grind[rC]);have ha:=hr.head;have hb:=hs.head;have h3:¬a.to<b.to:=fun q=>by grind[eZ,QB]
  have h4:¬b.to<a.to:=fun q=>by grind[eZ,QB]
  have e:a=b:=by
   obtain⟨a1,a2⟩:=a;obtain⟨b1,b2⟩:=b;grind
  subst e;rw[zT hr.tail hs.tail fun d=>by rw[Gg hr,Gg hs,h]]
def wi(f:Int→Bool)(d:Int)(l:List PSpan):List PSpan:=match f d with
 |false=>l
 |true=>match l with
  |[]=>[⟨d,d+1⟩]
  |s::r=>if s.from_=d+1 then⟨d,s.to⟩::r else⟨d,d+1⟩::s::r
def xX(f:Int→Bool):Nat→List PSpan
 |0=>[]
 |k+1=>wi f (1048577-Int.ofNat (k+1)) (xX f k)
theorem O8{f:Int→Bool}{d:Int}{l:List PSpan}(h0:0≤d)(h1:d+1≤1048577)(hl:NrmS l)(hf:∀s,s∈l→d+1≤s.from_):
  NrmS (wi f d l)∧(∀s,s∈wi f d l→d≤s.from_)∧∀e,memB (wi f d l) e=((decide (e=d)&&f e)||memB l e):=by
 unfold wi;cases hfd:f d with
 |false=>grind
 | true=>
  match l,hl,hf with
  |[],_,_=>
   refine⟨⟨by simp,fun s hs=>by grind⟩,fun s hs=>by simp_all,fun e=>?_⟩;simp only[eZ,mS,Bool.or_false];grind
  | s::r,hl,hf=>
   have hs:=hl.head;have hs2:=hf s (dI ..);simp only[];by_cases q:s.from_=d+1
   ·rw[if_pos q];refine⟨⟨ji.2 ⟨fun x hx=>hl.low hx,hl.tail.gap⟩,fun x hx=>?_⟩,fun x hx=>?_,fun e=>?_⟩
    ·grind[cases NrmS]
    ·grind
    ·simp only[eZ];grind
   ·rw[if_neg q];refine⟨⟨ji.2 ⟨fun x hx=>?_,hl.gap⟩,fun x hx=>?_⟩,fun x hx=>?_,fun e=>?_⟩
    ·have:=hf x hx;rcases fQ.1 hx with e|e
     ·grind
     ·have:=hl.low e;grind
    ·rcases fQ.1 hx with e|e
     ·grind
     ·exact hl.ok x e
    ·grind
    ·rw[eZ];grind
theorem GZ(f:Int→Bool):∀k,k≤1048577→NrmS (xX f k)∧(∀s,s∈xX f k→1048577-Int.ofNat k≤s.from_)∧∀e,memB (xX f k) e=(decide (1048577-Int.ofNat k≤e∧e<1048577)&&f e)
 |0,_=>by
  refine⟨yl,fun s h=>(by cases h),fun e=>?_⟩;have:decide (1048577-Int.ofNat 0≤e∧e<1048577)=false:=by simp_all
  rw[this];rfl
 |k+1,hk=>by
  obtain⟨h1,h2,h3⟩:=GZ f k (by omega);simp only[aP]at *;have:=O8 (f:=f) (d:=1048577-((k+1:Nat):Int)) (l:=xX f k) (by omega) (by omega) h1 (fun s hs=>by grind);have h5:xX f (k+1)=wi f (1048577-((k+1:Nat):Int)) (xX f k):=by grind[xX]
  grind
theorem QD(f:Int→Bool):∃l:List PSpan,NrmS l∧∀d,memB l d=(Fw d&&f d):=by
 obtain⟨h1,_,h3⟩:=GZ f 1048577 (aB _);exact⟨_,h1,fun d=>by simp_all[Fw]⟩
noncomputable def nf(f:Int→Bool):List PSpan:=Classical.choose (QD f)
theorem AZ(f:Int→Bool):NrmS (nf f):=(Classical.choose_spec (QD f)).1
theorem Jy(f:Int→Bool)(d:Int):memB (nf f) d=(Fw d&&f d):=(Classical.choose_spec (QD f)).2 d
theorem QE{f:Int→Bool}{r:List PSpan}(h:NrmS r)(hm:∀d,memB r d=(Fw d&&f d)):r=nf f:=zT h (AZ f) fun d=>by grind[Jy]
theorem QF{f g:Int→Bool}(h:∀d,Fw d=true→f d=g d):nf f=nf g:=QE (AZ f) fun d=>by
 rw[Jy];grind
theorem Ln{l:List PSpan}(h:NrmS l):l=nf (memB l):=QE h fun d=>by
 cases q:memB l d with
 |false=>simp_all
 |true=>
  obtain⟨s,h1,h2,h3⟩:=gq.1 q;have:=h.ok s h1;have:Fw d=true:=by unfold Fw;grind
  simp_all
theorem yy{α:Type}[Inhabited α]{l:List α}{n:Nat}(h:n<l.length):l.take (n+1)=l.take n++[gD l n]:=by grind[List.take_add_one,gD]
theorem yE{α:Type}[Inhabited α]{l:List α}{n:Nat}(h:n<l.length):l.drop n=gD l n::l.drop (n+1):=by grind[List.drop_eq_getElem_cons,gD]
theorem uZ{α:Type}{l:List α}{n m:Nat}{x:α}(h:n≤m):(l.set m x).take n=l.take n:=by
 apply List.ext_getElem?;grind
theorem Ju{α:Type}[Inhabited α]{l:List α}{i k:Nat}{x:α}(h:i<l.length):gD (l.set i x) k=if k=i then x else gD l k:=by
 unfold gD List.getD;grind
theorem sr.at{l:List PSpan}(h:sr l){i k:Nat}(hik:i≤k)(hk:k<l.length):(gD l i).from_≤(gD l k).from_:=by
 rcases fu i k with q|q
 ·have:=KA.1 h i k (by omega) hk q;grind[gD]
 grind
structure MergeI(l cur:List PSpan)(n i:Nat):Prop where
 len:cur.length=l.length
 le:n≤i
 il:i≤l.length
 pos:0<i→0<n
 rest:∀k,i≤k→k<l.length→gD cur k=gD l k
 gap:∀j k,j<k→k<n→(gD cur j).to<(gD cur k).from_
 ok:∀k,k<n→0≤(gD cur k).from_∧(gD cur k).from_<(gD cur k).to∧(gD cur k).to≤1048577
 last:0<n→∀k,i≤k→k<l.length→(gD cur (n-1)).from_≤(gD l k).from_
 mem:∀d,(memB (cur.take n) d||memB (l.drop i) d)=memB l d
theorem MergeI.start(l:List PSpan):MergeI l l 0 0:=⟨rfl,aB _,bL _,fun h=>absurd h (wD _),fun _ _ _=>rfl,fun _ _ _ h=>absurd h (qx _),fun _ h=>absurd h (qx _),fun h=>absurd h (wD _),fun d=>by simp[memB]⟩
theorem MergeI.copy{l cur:List PSpan}{n i:Nat}(h:MergeI l cur n i)(hi:i<l.length)(hs:sr l)(hok:∀k,k<l.length→0≤(gD l k).from_∧(gD l k).from_<(gD l k).to∧(gD l k).to≤1048577)
  (hn:n=0∨(gD cur (n-1)).to<(gD cur i).from_):MergeI l (cur.set n (gD cur i)) (n+1) (i+1):=by
 rw[h.rest i (aB _) hi]at hn ⊢;have hl:=h.le;have hcl:=h.len;have hg:∀k,gD (cur.set n (gD l i)) k=if k=n then gD l i else gD cur k:=fun k=>Ju (by omega)
 refine⟨by simp_all,by omega,by omega,fun _=>by omega,fun k h1 h2=>?_,fun j k h1 h2=>?_,fun k h1=>?_,fun _ k h1 h2=>?_,fun d=>?_⟩
 ·grind[cases MergeI]
 ·rw[hg,hg,if_neg (by omega)];by_cases e:k=n
  ·rw[if_pos e];rcases hn with hn|hn
   ·omega
   ·by_cases e2:j=n-1
    ·simp_all
    ·have h3:=h.gap j (n-1) (by omega) (by omega);grind[cases MergeI]
  ·grind[cases MergeI]
 ·rw[hg];by_cases e:k=n
  ·simp_all
  ·grind[cases MergeI]
 ·rw[hg,if_pos (by omega)];exact hs.at (by omega) h2
 ·rw[yy (by grind),hg,if_pos rfl,uZ (aB _),AU,←h.mem d,yE hi,eZ,eZ,mS];grind
theorem MergeI.join{l cur:List PSpan}{n i:Nat}(h:MergeI l cur n i)(hi:i<l.length)(hs:sr l)(hok:∀k,k<l.length→0≤(gD l k).from_∧(gD l k).from_<(gD l k).to∧(gD l k).to≤1048577)
  (hn:0<n)(hle:(gD cur i).from_≤(gD cur (n-1)).to)(x:Int)(hx:x=C4 (gD cur (n-1)).to (gD cur i).to):MergeI l (cur.set (n-1) ⟨(gD cur (n-1)).from_,x⟩) n (i+1):=by
 rw[h.rest i (aB _) hi]at hle;rw[h.rest i (aB _) hi,Ej]at hx;have hl:=h.le;have hcl:=h.len;have hg:∀k,gD (cur.set (n-1) ⟨(gD cur (n-1)).from_,x⟩) k=if k=n-1 then⟨(gD cur (n-1)).from_,x⟩else gD cur k:=fun k=>Ju (by omega)
 have h4:=h.ok (n-1) (by omega);have h5:=hok i hi;have h6:=h.last hn i (aB _) hi;refine⟨by simp_all,by omega,by omega,fun _=>hn,fun k h1 h2=>?_,fun j k h1 h2=>?_,fun k h1=>?_,fun _ k h1 h2=>?_,fun d=>?_⟩
 ·grind[cases MergeI]
 ·rw[hg,hg,if_neg (by omega)];by_cases e:k=n-1
  ·grind[cases MergeI]
  ·grind[cases MergeI]
 ·rw[hg];by_cases e:k=n-1
  ·grind
  ·grind[cases MergeI]
 ·grind[cases MergeI]
 ·obtain⟨m,rfl⟩:∃m,n=m+1:=⟨n-1,by omega⟩
  simp only[Nat.add_sub_cancel]at *;rw[yy (by grind),hg,if_pos rfl,uZ (aB _),AU,←h.mem d,yE hi,eZ (gD l i),yy (by omega),AU,eZ,eZ,mS,Bool.or_false,Bool.or_false];grind
theorem MergeI.nrm{l cur:List PSpan}{n i:Nat}(h:MergeI l cur n i):NrmS (cur.take n):=by
 have hl:=h.le;have hcl:=h.len;have hil:=h.il;have hlen:(cur.take n).length=n:=by grind
 have hg:∀k (hk:k<(cur.take n).length),(cur.take n)[k]=gD cur k:=fun k hk=>by rw[List.getElem_take];unfold gD List.getD;grind
 refine⟨?_,fun s hs=>?_⟩;all_goals grind[List.pairwise_iff_getElem,List.getElem_of_mem,cases MergeI]
theorem MergeI.done{l cur:List PSpan}{n i:Nat}(h:MergeI l cur n i)(hi:l.length≤i)(d:Int):memB (cur.take n) d=memB l d:=by rw[←h.mem d,Ck hi,mS,Bool.or_false]
theorem SC{l l':List PSpan}(hp:l'.Perm (jr l)):∀k,k<l'.length→0≤(gD l' k).from_∧(gD l' k).from_<(gD l' k).to∧(gD l' k).to≤1048577:=fun k hk=>BU (hp.mem_iff.1 (fR hk))
noncomputable def fg(l:List PSpan):List PSpan:=nf (memB l)
theorem Gl{l r:List PSpan}(h:NrmS r)(hm:∀d,memB r d=memB (jr l) d):r=fg l:=QE h fun d=>by grind[Do]
theorem NT{l:List PSpan}(h:jr l=[]):[]=fg l:=Gl yl fun d=>by grind
end Go.Ev
namespace Go.Ev
open Go
theorem tc{zs:List Int}(hs:zs.Pairwise fun a b=>a≤b):(an zs).Pairwise (fun a b=>a<b)∧∀z,z∈an zs↔z∈zs:=by
 generalize hd:zs.toArray=d;have hsz:d.size=zs.length:=by grind
 have hx:∀j (hj:j<zs.length),d[j]! =zs[j]:=fun j hj=>by grind
 have mono:∀i j,i≤j→j<zs.length→d[i]!≤d[j]!:=fun i j hij hj=>by
  rcases fu i j with q|q
  ·rw[hx i (by omega),hx j hj];exact KA.1 hs i j (by omega) hj q
  grind
 have key:∀m,m≤zs.length→(Lib.compactUpTo d m).Pairwise (fun a b=>a<b)∧(∀z,z∈Lib.compactUpTo d m→∃j,j<m∧z=d[j]!)∧∀j,j<m→d[j]!∈Lib.compactUpTo d m:=by
  intro m;induction m with
  |zero=>simp_all[Lib.compactUpTo]
  | succ m ih=>
   intro hm;obtain⟨h1,h2,h3⟩:=ih (by omega);rw[Lib.compactUpTo_succ];cases hk:Lib.keeps d m with
   | true=>
    simp only[if_true];have hk':m=0∨d[m]!≠d[m-1]!:=by grind[Lib.keeps]
    refine⟨List.pairwise_append.2 ⟨h1,by simp,fun a ha b hb=>?_⟩,fun z hz=>?_,fun j hj=>?_⟩
    ·obtain⟨j,hj,rfl⟩:=h2 a ha;have hb:b=d[m]!:=by simp_all
     subst hb;have e1:=mono j (m-1) (by omega) (by omega);have e2:=mono (m-1) m (by omega) (by omega);omega
    all_goals grind
   |false=>
    simp only[gi,if_false,dE];have hk':¬(m=0∨d[m]!≠d[m-1]!):=by grind[Lib.keeps]
    grind
 obtain⟨h1,h2,h3⟩:=key zs.length (aB _);have e:an zs=Lib.compactUpTo d zs.length:=by grind[an,Lib.compact]
 rw[e];refine⟨h1,fun z=>⟨fun hz=>?_,fun hz=>?_⟩⟩
 ·grind
 ·obtain⟨j,hj,rfl⟩:=Fv hz;simp_all
theorem NrmS.at{l:List PSpan}(h:NrmS l){j k:Nat}(hjk:j<k)(hk:k<l.length):(gD l j).to<(gD l k).from_:=by
 have:=KA.1 h.gap j k (by omega) hk hjk;grind[gD]
theorem NrmS.okAt{l:List PSpan}(h:NrmS l){k:Nat}(hk:k<l.length):0≤(gD l k).from_∧(gD l k).from_<(gD l k).to∧(gD l k).to≤1048577:=h.ok _ (fR hk)
theorem Uf{l:List PSpan}{d:Int}:memB l d=true↔∃k,k<l.length∧(gD l k).from_≤d∧d<(gD l k).to:=by
 rw[gq];constructor
 ·rintro⟨s,h1,h2⟩
  obtain⟨k,hk,e⟩:=Fv h1;have:gD l k=s:=by grind[gD]
  grind
 grind[fR]
theorem Dm {a b:Int}:af (jp a b) 0=true↔a=b:=by
 unfold jp;cases h:aF a b with
 | true => have:=ar h;constructor
           ·intro h;cases h
           omega
 |false=>
  have:=aG h;cases h2:aF b a with
  | true => have:=ar h2;constructor
            ·intro h;cases h
            omega
  |false=>have:=aG h2;exact⟨fun _=>by omega,fun _=>rfl⟩
theorem Ey{l:List PSpan}(h:NrmS l)(d:Int):iZ l d=memB l d:=by
 have hi:=vJ (d:=d) h.sort;have hc:=yG l d;rw[xI,Uf];unfold iZ GS;simp only[qj,bq];constructor
 ·rintro(⟨h1,h2⟩|⟨h1,h2⟩)
  ·have h1:=ar h1;simp only[aP]at h1;have h2:=Dm.1 h2;have:=h.okAt (k:=mJ l d) (by omega);grind
  ·have h1:=ar h1;have h2:=ar h2;simp only[aP]at h1;have h3:=ar ((hi (mJ l d-1) (by omega)).2 (by omega));grind
 ·rintro⟨k,hk,h1,h2⟩
  by_cases e:(gD l k).from_=d
  ·left;have e1:¬k<mJ l d:=fun q=>by have:=ar ((hi k hk).2 q);omega
   have e2:¬mJ l d<k:=fun q=>by
    have h3:=h.at q hk;have h4:=h.okAt (k:=mJ l d) (by omega);grind[kF]
   have e3:mJ l d=k:=by omega
   rw[e3];exact⟨kF (by simp_all),Dm.2 e⟩
  ·right;have e1:k<mJ l d:=(hi k hk).1 (kF (by omega));have e2:¬k+1<mJ l d:=fun q=>by
    have h3:=h.at (j:=k) (k:=k+1) (by omega) (by omega);have:=ar ((hi (k+1) (by omega)).2 q);omega
   grind[kF]
def pi(l:List PSpan):List Int:=l.flatMap fun s=>[s.from_,s.to]
theorem De(s:PSpan)(r:List PSpan):pi (s::r)=[s.from_,s.to]++pi r:=by simp[pi]
theorem kh:∀(l:List PSpan),(pi l).length=2*l.length
 |[]=>rfl
 |s::r=>by rw[De];simp[kh r];omega
theorem HA{l:List PSpan}{s:PSpan}(h:s∈l):s.from_∈pi l∧s.to∈pi l:=by
 unfold pi;grind
def di(g:Int→Bool):List Int→List PSpan
 |[]=>[]
 | a::r=>match r with
  |[]=>[]
  |b::_=>match g a with
   |true=>⟨a,b⟩::di g r
   |false=>di g r
theorem oZ(g:Int→Bool)(a b:Int)(r:List Int):di g (a::b::r)=match g a with|true=>⟨a,b⟩::di g (b::r)|false=>di g (b::r):=by rw[di]
def qM:Int→List Int→Int
 |a,[]=>a
 |_,b::r=>qM b r
theorem Ad:∀{r:List Int}{a:Int},(a::r).Pairwise (fun a b=>a<b)→a≤qM a r∧∀z,z∈r→z≤qM a r
 |[],a,_=>⟨Int.le_refl _,fun z h=>by grind⟩
 |b::r,a,h=>by
  obtain⟨h1,h2⟩:=ji.1 h;have h3:=h1 b (dI ..);obtain⟨k1,k2⟩:=Ad h2;grind[qM]
theorem zi{g:Int→Bool}{C:List Int}(hg:∀x y,(∀z,z∈C→z≤x∨y≤z)→∀d,x≤d→d<y→g d=g x):
  ∀(r:List Int)(a:Int),(a::r).Pairwise (fun a b=>a<b)→(∀z,z∈C→z≤a∨z∈r)→∀d,memB (di g (a::r)) d=(decide (a≤d∧d<qM a r)&&g d)
 |[],a,_,_,d=>by
  have:decide (a≤d∧d<qM a [])=false:=by grind[qM]
  rw[this];rfl
 | b::r,a,hp,hC,d=>by
  obtain⟨h1,h2⟩:=ji.1 hp;have hab:=h1 b (dI ..);obtain⟨hb2,h3⟩:=ji.1 h2;have hl:=(Ad h2).1;have ih:=zi hg r b h2 (fun z hz=>by grind) d;have hc:∀d,a≤d→d<b→g d=g a:=hg a b fun z hz=>by grind
  have e0:memB (di g (a::b::r)) d=((g a&&decide (a≤d∧d<b))||memB (di g (b::r)) d):=by
   rw[oZ];cases g a with
   |true=>rw[eZ,wo]
   |false=>simp_all
  rw[e0,ih,show qM a (b::r)=qM b r from rfl];grind
def iB(A:List PSpan):List Int:=an (bK (pi A))
theorem MC(A:List PSpan):(iB A).Pairwise (fun a b=>a<b)∧∀z,z∈iB A↔z∈pi A:=by
 obtain⟨h1,h2⟩:=tc (pQ (pi A));exact⟨h1,fun z=>(h2 z).trans (jD (pi A)).mem_iff⟩
theorem AY{A l:List PSpan}(hl:∀s,s∈l→s∈A){x y:Int}(hz:∀z,z∈iB A→z≤x∨y≤z){d:Int}(h1:x≤d)(h2:d<y):memB l d=memB l x:=by
 have key:∀s,s∈l→((s.from_≤d∧d<s.to)↔(s.from_≤x∧x<s.to)):=fun s hs=>by
  obtain⟨k1,k2⟩:=HA (hl s hs);grind[MC]
 rw[xI,gq,gq];grind
theorem Ni{op:Bool→Bool→Bool}(h0:op false false=false)(A B:List PSpan)(d:Int):memB (di (fun d=>op (memB A d) (memB B d)) (iB (A++B))) d=op (memB A d) (memB B d):=by
 obtain⟨h1,h2⟩:=MC (A++B);have out:∀(z1 z2:Int),(∀z,z∈iB (A++B)→z1≤z∧z≤z2)→¬(z1≤d∧d<z2)→op (memB A d) (memB B d)=false:=fun z1 z2 hz hd=>by
  have no:∀l:List PSpan,(∀s,s∈l→s∈A++B)→memB l d=false:=fun l hl=>by
   cases q:memB l d with
   |false=>rfl
   |true=>
    obtain⟨s,k1,k2,k3⟩:=gq.1 q;obtain⟨k4,k5⟩:=HA (hl s k1);grind
  simp_all
 cases hC:iB (A++B)with
 |nil=>
  rw[di,mS];exact(out (d+1) d (fun z hz=>by grind) (by omega)).symm
 | cons a r=>
  rw[hC]at h1;have hl:=Ad h1;have hp:=(ji.1 h1).1;rw[zi (C:=iB (A++B)) (fun x y hz d h3 h4=>by
   show op (memB A d) (memB B d)=op (memB A x) (memB B x)
   rw[AY (A:=A++B) (fun s hs=>n6 _ hs) hz h3 h4,AY (A:=A++B) (fun s hs=>qq _ hs) hz h3 h4]) r a h1 (fun z hz=>by
   grind) d]
  by_cases q:a≤d∧d<qM a r;all_goals grind
theorem BX(A:List PSpan):(iB A).length≤2*A.length:=by
 have:=xu (bK (pi A));have h2:=(jD (pi A)).length_eq;grind[kh,iB]
theorem CC{g:Int→Bool}{C:List Int}{x:Nat}(h1:1≤x)(h2:x<C.length):di g (C.drop (x-1))=match g (gD C (x-1))with|true=>⟨gD C (x-1),gD C x⟩::di g (C.drop (x+1-1))|false=>di g (C.drop (x+1-1)):=by grind[yE,oZ]
theorem lz{g:Int→Bool}{C:List Int}{x:Nat}(h1:1≤x)(h2:C.length≤x):di g (C.drop (x-1))=[]:=by
 have:(C.drop (x-1)).length≤1:=by simp_all
 match C.drop (x-1),this with
 |[],_=>rfl
 |[_],_=>rfl
 |_::_::_,h=>simp_all
noncomputable def so(op:Bool→Bool→Bool)(a b:List PSpan):List PSpan:=nf fun d=>op (memB a d) (memB b d)
theorem j6(l:List PSpan):NrmS (fg l):=AZ _
theorem v9(l:List PSpan)(d:Int):memB (fg l) d=(Fw d&&memB l d):=Jy _ d
theorem OS{op:Bool→Bool→Bool}(h0:op false false=false){a b A B:List PSpan}(hA:fg a=A)(hB:fg b=B):fg (di (fun d=>op (iZ A d) (iZ B d)) (iB (A++B)))=so op a b:=by
 have nA:NrmS A:=hA▸j6 a;have nB:NrmS B:=hB▸j6 b;have e:(fun d=>op (iZ A d) (iZ B d))=fun d=>op (memB A d) (memB B d):=funext fun d=>by grind[Ey]
 rw[e];unfold fg so;refine QF fun d hd=>?_
 rw[Ni h0,←hA,←hB,v9,v9,hd,wo,wo]
end Go.Ev
namespace Go.Ev
open Go
section
variable{H:Type}{enc:TypeId×Value→H}{P:Program}{w:World}{base:Nat}{spare:Nat→Bool}{held:Bool}
inductive VL(M:dt):List AV→List Value→Prop
 |nil:VL M [] []
 |cons {x:AV} {v:Value} {xs:List AV} {vs:List Value} (h:VRel (fun _=>none) M x v) (t:VL M xs vs):VL M (x::xs) (v::vs)
theorem VL.append{M:dt}{xs ys:List AV}{a b:List Value}(h:VL M xs a)(k:VL M ys b):VL M (xs++ys) (a++b):=by
 induction h with
 |nil=>grind
 |cons h _ ih=>exact .cons h ih
theorem VL.at_{M:dt}{xs:List AV}{a:List Value}(h:VL M xs a):∀(j:Nat)(y:AV),xs[j]?=some y→∃v,a[j]?=some v∧VRel (fun _=>none) M y v:=by
 induction h with
 |nil=>simp_all
 |cons h _ ih=>grind
theorem VL.one{M:dt}{x:AV}{cs:List Value}(h:VL M [x] cs):∃v,cs=[v]∧VRel (fun _=>none) M x v:=by
 cases h with
 |cons h t=>cases t;simp_all
def Wt(P:Program)(t:TypeId)(d:DataW H):Prop:=∀m,m∈d.weights P t→m≤reachBytes
theorem qc{e:TypeId}{d:DataW H}{m:Nat}(hm:m∈d.weights P e):∀{l:List (DataW H)},d∈l→m∈DataW.weightsAll P e l
 |[],h=>by grind
 |a::r,h=>by
  unfold DataW.weightsAll;rcases fQ.1 h with rfl|h
  ·simp_all
  ·exact qq _ (qc hm h)
theorem l9{t:TypeId}{d:DataW H}{m:Nat}(hm:m∈d.weights P t):∀{ts:List TypeId}{l:List (DataW H)}(i:Nat),ts[i]?=some t→l[i]?=some d→m∈DataW.weightsEach P ts l
 |[],_,i,h,_=>by simp_all
 |_::_,[],i,_,h=>by simp_all
 |u::ts,a::r,i,h1,h2=>by
  unfold DataW.weightsEach;cases i with
  |zero=>simp_all
  |succ i=>exact qq _ (l9 hm i (by simp_all) (by simp_all))
def EP(P:Program):List Field→Nat→Nat→Bool
 |[],off,n=>Nat.beq off n
 |f::r,off,n=>Nat.beq f.offset off&&EP P r (off+P.cellsOf f.type) n
def VF(M:dt)(P:Program)(cs:List Value):List Field→List (List AV)→Prop
 |[],[]=>True
 |f::fs,xs::xss=>VL M xs ((cs.drop f.offset).take (P.cellsOf f.type))∧VF M P cs fs xss
 |_,_=>False
theorem VF.vl{M:dt}{cs:List Value}:∀{fs:List Field}{xss:List (List AV)}{off:Nat},EP P fs off cs.length=true→VF M P cs fs xss→VL M xss.flatten (cs.drop off)
 |[],[],off,h,_=>by
  have:=pC h;rw[this,List.drop_length];exact .nil
 |[],_::_,_,_,h=>h.elim
 |_::_,[],_,_,h=>h.elim
 |f::fs,xs::xss,off,h,k=>by
  unfold EP at h;rw[bq]at h;have ho:=pC h.1;have h1:=k.1;rw[ho]at h1;have h2:=VF.vl h.2 k.2;have e:cs.drop off=(cs.drop off).take (P.cellsOf f.type)++cs.drop (off+P.cellsOf f.type):=by grind[List.drop_drop,List.take_append_drop]
  rw[List.flatten_cons,e];exact h1.append h2
def TF(enc:TypeId×Value→H)(P:Program)(w:World)(base:Nat)(spare:Nat→Bool)(held:Bool)(n:Nat)(cs:List Value):List Field→Prop
 |[]=>True
 |f::fs=>(∃d p,DataW.trod enc P w base spare held n f.type ((cs.drop f.offset).take (P.cellsOf f.type))=some (d,p)∧Wt P f.type d)∧TF enc P w base spare held n cs fs
theorem WE{n:Nat}{cs:List Value}:∀(fs:List Field),(∀(i:Nat)(f:Field),fs[i]?=some f→∃d p,DataW.trod enc P w base spare held n f.type ((cs.drop f.offset).take (P.cellsOf f.type))=some (d,p)∧Wt P f.type d)→TF enc P w base spare held n cs fs
 |[],_=>trivial
 |f::fs,h=>⟨h 0 f rfl,WE fs fun i g hg=>h (i+1) g (by simp_all)⟩
theorem jK{t:TypeId}{fs:Array Field}{fuel:Nat}{cs:List Value}{d:DataW H}{p:List MemPlace}(hu:P.underlying t=some (.struct fs))(hc:EP P fs.toList 0 (P.cellsOf t)=true)
  (h:DataW.trod enc P w base spare held fuel t cs=some (d,p))(hw:Wt P t d):
  ∃n,fuel=n+1∧TF enc P w base spare held n cs fs.toList∧∀xss,VF (cw w) P cs fs.toList xss→VL (cw w) xss.flatten cs:=by
 obtain⟨xs,n,rfl,h1,h2,h3,h4⟩:=DataW.trod_struct hu h;simp only[sx]at h1;obtain⟨rfl,_⟩:=h1;refine⟨n,rfl,WE _ fun i f hf=>?_,fun xss hx=>?_⟩
 ·have hf':fs[i]?=some f:=by simp_all
  have hi:i<xs.length:=by grind
  have e:=h4 i f hf';rw[lw hi]at e;refine⟨xs[i].1,xs[i].2,e,fun m hm=>hw m ?_⟩;unfold DataW.weights;rw[hu];exact l9 hm i (by simp_all) (by grind)
 ·have:=VF.vl (off:=0) (by simp_all) hx;simp_all
theorem gF{t:TypeId}{fuel:Nat}{cs:List Value}{d:DataW H}{p:List MemPlace}(hu:P.underlying t=some (.int .i64))(h:DataW.trod enc P w base spare held fuel t cs=some (d,p)):∃x,VL (cw w) [.int .i64 x] cs:=by
 obtain⟨x,rfl,_⟩:=DataW.trod_int hu h;exact⟨x,.cons (.int _ _) .nil⟩
theorem nI{t:TypeId}{fuel:Nat}{cs:List Value}{d:DataW H}{p:List MemPlace}(hu:P.underlying t=some .string)(h:DataW.trod enc P w base spare held fuel t cs=some (d,p)):∃s,VL (cw w) [.str s] cs:=by
 obtain⟨⟨⟨s⟩⟩,rfl,_⟩:=DataW.trod_string hu h;exact⟨s,.cons (.str _) .nil⟩
theorem LB{α:Type}{Q:Nat→α→Prop}:∀(n:Nat),(∀i,i<n→∃x,Q i x)→∃l:List α,l.length=n∧∀i x,l[i]?=some x→Q i x
 |0,_=>⟨[],rfl,fun i x h=>by simp_all⟩
 |n+1,h=>by
  obtain⟨l,h1,h2⟩:=LB n fun i hi=>h i (by omega)
  obtain⟨y,hy⟩:=h n (by omega);refine⟨l++[y],by simp_all,fun i x hx=>?_⟩;grind
theorem Z6{x:AV}(h:x.cells.all cL=true):Sc x:=fun y hy=>na.1 h y hy
theorem I4{α:Type}(el:α→AV)(fit:α→Prop){t e:TypeId}{fuel:Nat}{cs:List Value}{d:DataW H}{p:List MemPlace}(hu:P.underlying t=some (.slice e))(hsz:Nat.blt 0 (P.cellsOf e)=true)(hby:Nat.blt 0 (P.bytesOf e)=true)
  (hel:∀x,(el x).cells.length=P.cellsOf e)(hsc:∀x,(el x).cells.all cL=true)(htop:∀x,(el x).top=0)
  (hrec:∀m,m<fuel→∀cs d p,DataW.trod enc P w base spare held m e cs=some (d,p)→Wt P e d→∃x,fit x∧VL (cw w) (el x).cells cs)
  (h:DataW.trod enc P w base spare held fuel t cs=some (d,p))(hw:Wt P t d):
  ∃l:List α,l.length<2^47∧(∀x,x∈l→fit x)∧VL (cw w) [.ls (l.map el)] cs:=by
 rw[dl]at hsz hby;simp only[decide_eq_true_eq]at hsz hby;rcases DataW.trod_slice hu h with⟨rfl,_⟩|⟨a,len,cap,elems,rest,n,rfl,rfl,h1,h2,h3,h4,h5,h6,_,_⟩
 ·exact⟨[],Nat.two_pow_pos 47,fun x h=>absurd h (List.not_mem_nil),.cons .lsn .nil⟩
 ·simp only[sx]at h1;obtain⟨rfl,_⟩:=h1;have hwl:len<2^47:=by
   have:=hw ((elems.length+rest.length)*P.bytesOf e) (by grind[DataW.weights]);have h7:elems.length≤(elems.length+rest.length)*P.bytesOf e:=bR (Nat.le_add_right _ _) (Nat.le_mul_of_pos_right _ hby);have:elems.length≤reachBytes:=bR h7 this;rw[h5]at this;exact ny this (by decide)
  have el0:∀i,i<len→∃x,fit x∧∃cs:List Value,cs.length=P.cellsOf e∧(∀j,j<P.cellsOf e→w.cell? ((a.add (i*P.cellsOf e)).add j)=cs[j]?)∧VL (cw w) (el x).cells cs:=by
   intro i hi;have k5:=h6 i hi;have hi':i<elems.length:=by omega
   rw[lw hi']at k5;simp only[Option.bind_eq_some_iff]at k5;obtain⟨cs,c1,c2⟩:=k5;obtain⟨z1,z2⟩:=Dr c1;obtain⟨x,f1,f2⟩:=hrec n (by omega) cs elems[i].1 elems[i].2 c2 (fun m hm=>hw m (by
    unfold DataW.weights;rw[hu];exact eW _ (n6 _ (qc hm (ku.2 ⟨elems[i],DI hi',rfl⟩)))))
   grind
  obtain⟨l,q1,q2⟩:=LB len el0;refine⟨l,by omega,fun x hx=>?_,.cons ?_ .nil⟩
  ·obtain⟨i,hi⟩:=Ff.1 hx;grind
  ·have q1':(l.map el).length=len:=by simp_all
   generalize hys:l.map el=ys at *;have q3:∀i y,ys[i]?=some y→∃cs:List Value,cs.length=P.cellsOf e∧(∀j,j<P.cellsOf e→w.cell? ((a.add (i*P.cellsOf e)).add j)=cs[j]?)∧VL (cw w) y.cells cs:=by grind
   have q4:∀y,y∈ys→y.cells.length=P.cellsOf e∧Sc y:=by grind[Z6]
   have q5:az ys=0:=by grind[aX]
   have addadd:∀i j:Nat,a.spot=none→(a.add i).add j=⟨a.block,a.off+i+j,none⟩:=by
    intro i j hs;obtain⟨blk,off,spot⟩:=a;grind[Addr.add]
   have spot:ys≠[]→a.spot=none:=by
    intro hne;obtain⟨x,hx⟩:∃x,ys[0]?=some x:=by
     cases ys with
     |nil=>simp_all
     |cons x r=>exact⟨x,rfl⟩
    grind[r9,Addr.add]
   have cell:∀(i j:Nat)(x:AV),ys[i]?=some x→j<P.cellsOf e→∃c v,cw w a.block=some c∧c[a.off+i*P.cellsOf e+j]?=some v∧∀y,x.cells[j]?=some y→VRel (fun _=>none) (cw w) y v:=by
    intro i j x hx hj;obtain⟨cs,c1,c2,c3⟩:=q3 i x hx;have:=c2 j hj;rw[lw (by omega),addadd _ _ (spot (by grind))]at this;obtain⟨_,c,m1,m2⟩:=r9 this;refine⟨c,_,m1,m2,fun y hy=>?_⟩;obtain⟨v,g1,g2⟩:=c3.at_ j y hy;simp_all
   refine .lsp ?_ q5;by_cases hne:ys=[]
   ·subst hne;simp at q1';subst q1';exact .ps (sz:=P.cellsOf e) (c:=#[]) (by simp) (fun h=>by grind) (fun h=>absurd rfl h) (fun x h=>by simp_all) (fun i x j y h=>by simp_all)
   ·have hlen:0<ys.length:=qw.2 hne;obtain⟨x0,hx0⟩:∃x,ys[ys.length-1]?=some x:=⟨ys[ys.length-1],by simp⟩
    obtain⟨c,v0,m1,m2,_⟩:=cell (ys.length-1) (P.cellsOf e-1) x0 hx0 (by omega);have hc:=(wB.1 m2).1;have hfit:a.off+ys.length*P.cellsOf e≤c.size:=by
     have h1:(ys.length-1)*P.cellsOf e+P.cellsOf e=ys.length*P.cellsOf e:=by rw[←qa];grind
     omega
    have:=VRel.ps (pl:=fun _=>none) (M:=cw w) (xs:=ys) (tight:=false) (a:=a) (cap:=cap) (sz:=P.cellsOf e) (c:=c) (by omega) (fun h=>by grind) (fun _=>⟨spot hne,m1,hfit,hsz⟩) q4
     (fun i x j y hx hy=>by
      obtain⟨r1,_⟩:=q4 x (bm hx);have hj:j<P.cellsOf e:=by grind
      obtain⟨c',v,n1,n2,n3⟩:=cell i j x hx hj;simp_all)
    simp_all
theorem ld{α:Type}(el:α→AV)(fit:α→Prop){t e:TypeId}{fuel:Nat}{cs:List Value}{d:DataW H}{p:List MemPlace}(hu:P.underlying t=some (.slice e))(hsz:Nat.blt 0 (P.cellsOf e)=true)(hby:Nat.blt 0 (P.bytesOf e)=true)
  (hel:∀x,(el x).cells.length=P.cellsOf e)(hsc:∀x,(el x).cells.all cL=true)(htop:∀x,(el x).top=0)
  (hrec:∀m,m<fuel→∀cs d p,DataW.trod enc P w base spare held m e cs=some (d,p)→Wt P e d→∃x,fit x∧VL (cw w) (el x).cells cs)
  (h:DataW.trod enc P w base spare held fuel t cs=some (d,p))(hw:Wt P t d):
  ∃l:List α,l.length<2^60∧(∀x,x∈l→fit x)∧VL (cw w) [.ls (l.map el)] cs:=by
 have⟨l,h1,h2⟩:=I4 el fit hu hsz hby hel hsc htop hrec h hw;grind
end
end Go.Ev
namespace Go.Ev
open Go
structure PPair where
 a:Int
 b:Int
deriving Inhabited,DecidableEq
structure PRef where
 act:Int
 item:Int
deriving Inhabited,DecidableEq
def nb(u:TUnit):List PWord:=u.head++u.words
mutual
def nJ:TUnit→List PWord
 |⟨_,_,_,_,_,h,w,ks⟩=>(h++w)++kI ks
def kI:List TUnit→List PWord
 |[]=>[]
 |k::r=>nJ k++kI r
end
theorem NX(u:TUnit):nJ u=nb u++kI u.kids:=by obtain⟨a,b,c,d,e,h,w,ks⟩:=u;rw[nJ];rfl
theorem DG:kI []=[]:=by rw[kI]
theorem tf(k:TUnit)(r:List TUnit):kI (k::r)=nJ k++kI r:=by rw[kI]
theorem oc{k:Int}:∀{m:List (Int×Int)},fx k m=none→¬k∈m.map (·.1)
 |[],_=>by simp
 | (i,x)::r,h=>by
  simp only[fx]at h;cases e:af k i with
  |true=>grind
  |false=>
   rw[e]at h;have:=oc h;grind[Da]
section
variable{u w':TUnit}{ws:List PWord}{w:PWord}{r:List PWord}{ks:List TUnit}{m x:List (Int×Int)}{c B:Int}
end
theorem VRel.ls0{pl:Pl}{M:dt}{x:Value}(h:VRel pl M (.ls []) x):VRel pl M .nils x∨VRel pl M (.ps [] false) x:=by
 cases h with
 |lsn=>exact .inl .nils
 |lsp h _=>simp_all
theorem Fz{P:Program}{G:eC}{f:FuncId}{a b c:List AV}{h:AHeap}{Ψ:AV→AHeap→Prop}(hs:∀pl M vs,VRels pl M c vs→VRels pl M a vs∨VRels pl M b vs)(h1:aL P G f a h Ψ)(h2:aL P G f b h Ψ):aL P G f c h Ψ:=fun pl M w vs hg hr hv=>(hs pl M vs hv).elim (h1 pl M w vs hg hr) (h2 pl M w vs hg hr)
theorem VRels.first{pl:Pl}{M:dt}{x y z:AV}{r:List AV}{vs:Array Value}(h:VRels pl M (z::r) vs)(hs:∀v,VRel pl M z v→VRel pl M x v∨VRel pl M y v):VRels pl M (x::r) vs∨VRels pl M (y::r) vs:=by
 obtain⟨h1,h2⟩:=h;have lift:∀u,VRel pl M u (vs.getD 0 undef)→VRels pl M (u::r) vs:=fun u hu=>⟨h1,fun j y hj=>by
  cases j with
  |zero=>grind
  |succ j=>simp_all⟩
 exact(hs _ (h2 0 z rfl)).imp (lift x) (lift y)
end Go.Ev
namespace Go.Ev
open Go
theorem aO{n b m:Nat}(h1:n≤m)(h2:m≤2^40)(h3:m*b≤2^40):small n b=true:=by
 unfold small;have h4:n*b≤m*b:=eu b h1;grind[Nat.ble_eq_true_of_le]
def YS(d:Int):List Int→List Int
 |[]=>[d]
 |x::r=>bif aF x d then x::YS d r else bif af x d then x::r else d::x::r
def b7(ws:List PWord)(l:List Int):List Int:=ws.foldl (fun l w=>YS w.act l) l
end Go.Ev
namespace Go.Ev
open Go
def TP{α:Type}:Result α→World
 | .ok _ w=>w
 | .halt _ w=>w
def gW:GStep→World
 | .go _ w _=>w
 | .comm _ _ _ _ w _=>w
 | .spawn _ _ w _=>w
 | .count _ w _=>w
 | .timer _ _ w _=>w
 | .alone _ _ w _=>w
 | .newcoro _ _ _ w _=>w
 | .coroswitch _ _ _ w _=>w
 | .collect _ w _=>w
 | .watch _ w _=>w
 | .ended _ w _=>w
theorem lp(es:Array Event)(g:GStep):gW (GStep.after es g)=gW g:=by cases g<;>rfl
theorem KV{α:Type}:∀(q:Ask α)(w:World),w.drawn≤(w.ask q).2.drawn
 | .done a,w=>aB _
 | .ask what range k,w=>by
  rw[World.ask];split
  ·exact KV (k 0) w
  ·exact bR (n8 _) (KV _ {w with drawn:=w.drawn+1})
theorem PL(w:World)(c:Sys):w.drawn≤(w.sys c).2.drawn:=by
 unfold World.sys;have h:=KV (Kernel.perform c w.os) w;grind
theorem xM{p:Program}{w w':World}{at_:Addr}{u:TypeId}{k:Addr}{v:Value}{b:Bool}{l:List Addr}(h:w.viewStore p at_ u k v b=.ok (w',l)):w'.drawn=w.drawn:=by
 unfold World.viewStore at h;simp only[bind,Except.bind,pure,Except.pure]at h
 repeat' split at h
 all_goals first|cases h;done|(injection h with h;injection h with h1 h2;rw[←h1])
theorem AO{p:Program}{w w':World}{a:Addr}{v:Value}{b:Bool}{l:List Addr}(h:w.farStore p a v b=.ok (w',l)):w'.drawn=w.drawn:=by
 unfold World.farStore at h
 repeat' split at h
 all_goals first|cases h;done|grind[xM]
theorem Es(w:World)(a:Addr)(n:Nat):(w.freeze a n).drawn=w.drawn:=by unfold World.freeze;grind
theorem QQ(p:Program){α:Type}(s:Sem α):∀(w:World),w.drawn≤(TP (s.run p w)).drawn:=by
 induction s with
 |pure a=>exact fun w=>aB _
 |load m a k ih=>
  intro w;simp only[Sem.run]
  repeat' split
  all_goals first|exact ih _ _|exact aB _
 | store m a v k ih=>
  intro w;cases v
  all_goals simp only[Sem.run]
  all_goals first
   |exact aB _
   |((repeat' split);all_goals first|exact aB _|exact ih (w.setCell _ _)|(rename_i e;refine bR ?_ (ih _);rw[AO e];exact aB _))
 |new o k ih=>grind[Sem.run]
 |shape r k ih=>grind[Sem.run]
 |freeze a n k ih=>intro w;simp only[Sem.run];refine bR ?_ (ih _);simp_all[Es]
 |frozen a k ih=>grind[Sem.run]
 |getObj r k ih=>
  intro w;simp only[Sem.run]
  repeat' split
  all_goals first|exact ih _ _|exact aB _
 |setObj r o k ih=>
  intro w;simp only[Sem.run]
  repeat' split
  all_goals first|exact ih {w with heap:=w.heap.setIfInBounds r o}|exact aB _
 |choose q k ih=>
  intro w;simp only[Sem.run];grind
 |sys c k ih=>grind[Sem.run,PL]
 |program k ih=>grind[Sem.run]
 |mark m k ih=>grind[Sem.run]
 |halt h=>exact fun w=>aB _
theorem cF{p:Program}{α:Type}{s:Sem α}{w:World}{r:Result α}(h:s.run p w=r):w.drawn≤(TP r).drawn:=h▸QQ p s w
theorem TM{p:Program}{α:Type}{s:Sem α}{w:World}{es es':Array Event}{r:Result α}(h:s.runT p w es=(r,es')):w.drawn≤(TP r).drawn:=by
 have:=Sem.runT_fst p s w es;rw[h]at this;exact cF this.symm
theorem JS(w:World)(fd:Nat)(text:ByteArray)(o:Outcome):w.drawn≤(gW (endWith w fd text o)).drawn:=by
 unfold endWith;simp only[];have h:=PL w (.write fd text);split;all_goals (rename_i e;rw[e]at h)
 all_goals repeat' split
 all_goals exact h
theorem xn(fr:Frame)(m:String)(w:World):w.drawn≤(gW (endThrow fr m w)).drawn:=aB _
theorem rV(p:Program)(fr:Frame)(v:Value)(w:World):w.drawn≤(gW (endPrinting p fr v w)).drawn:=by
 unfold endPrinting;simp only[]
 repeat' split
 all_goals exact aB _
theorem xo(p:Program)(fr:Frame)(cs:List Frame)(d:Option Dying)(m:String)(w:World):w.drawn≤(gW (endFatal p fr cs d m w)).drawn:=by
 unfold endFatal;simp only[];split;all_goals (rename_i e;exact cF e)
theorem IA(p:Program)(fr:Frame)(d:Dying)(f:Fatal)(w:World):w.drawn≤(gW (writeOn p fr d f w)).drawn:=by
 unfold writeOn;split
 ·exact aB _
 ·simp only[];split;all_goals (rename_i e;exact TM e)
theorem X7(p:Program)(fr:Frame)(d:Dying)(w:World):w.drawn≤(gW (die p fr d w)).drawn:=by
 unfold die;split
 ·grind[IA]
 ·split
  ·split
   ·exact aB _
   grind[JS]
  ·simp only[];split
   ·exact aB _
   ·split;all_goals (rename_i e;exact cF e)
   ·rw[lp];split;all_goals first|(rename_i e;exact cF ((Sem.runT_fst ..).symm.trans e))|skip
    ·rename_i e;exact bR (cF ((Sem.runT_fst ..).symm.trans e)) (rV ..)
    ·exact aB _
   ·exact aB _
theorem rU(p:Program)(main:Bool)(fr:Frame)(cs:List Frame)(d:Option Dying)(v:Value)(w:World):w.drawn≤(gW (doReturn p main fr cs d v w)).drawn:=by
 unfold doReturn
 repeat' split
 all_goals exact aB _
theorem tV{c:Prop}[Decidable c]{a b:GStep}{n:Nat}(h1:n≤(gW a).drawn)(h2:n≤(gW b).drawn):n≤(gW (if c then a else b)).drawn:=by grind
theorem yK(p:Program)(fr:Frame)(cs:List Frame)(dy:Option Dying)(d:Deferred)(w:World):w.drawn≤(gW (callDeferred p fr cs dy d w)).drawn:=by
 unfold callDeferred;refine tV ?_ ?_
 ·exact aB _
 ·simp only[];rw[lp];split;all_goals (rename_i e;have h:=cF ((Sem.runT_fst ..).symm.trans e))
  all_goals first|exact h|exact bR h (xo ..)|((repeat' split)<;>exact h)
theorem Nj(p:Program)(main:Bool)(fr:Frame)(cs:List Frame)(dy:Option Dying)(w:World):w.drawn≤(gW (unwind p main fr cs dy w)).drawn:=by
 unfold unwind;split
 ·simp only[];rw[lp];split;all_goals (rename_i e;exact cF ((Sem.runT_fst ..).symm.trans e))
 ·grind[yK]
 ·split
  ·exact aB _
  ·split
   ·exact aB _
   ·split
    ·exact aB _
    ·split
     ·split
      ·exact aB _
      ·split;all_goals (rename_i e;exact cF e)
     ·split
      ·grind[rV]
      ·exact aB _
  ·split
   ·grind[rU]
   ·simp only[];rw[lp];split;all_goals (rename_i e;have h:=cF ((Sem.runT_fst ..).symm.trans e))
    all_goals first|exact h|exact bR h (rU ..)
theorem Sq(p:Program)(fr:Frame)(cs:List Frame)(dy:Option Dying)(g:Nat)(w:World):w.drawn≤(gW (early p fr cs dy g w)).drawn:=by
 unfold early;simp only[]
 repeat' split
 all_goals first|exact aB _|(rename_i e;exact cF e)|(rename_i e _;exact cF e)|(rename_i e _ _;exact cF e)|(rename_i e _ _ _ _;exact cF e)
theorem vk(p:Program)(listen:Bool)(fr:Frame)(cs:List Frame)(dy:Option Dying)(s:Sem Next)(w:World):w.drawn≤(gW (stepG.apply p listen fr cs dy s w)).drawn:=by
 unfold stepG.apply;simp only[];rw[lp];have h0:w.drawn≤(TP (if listen=true then Sem.runT p s w #[]else(Sem.run p s w,#[])).fst).drawn:=by
  cases listen
  ·grind[QQ]
  ·exact cF (Sem.runT_fst ..).symm
 generalize (if listen=true then Sem.runT p s w #[]else(Sem.run p s w,#[])).fst=r at h0 ⊢;split;all_goals first|exact h0|exact bR h0 (xo ..)|exact bR h0 (Sq ..)|exact bR h0 (xn ..)|skip
 all_goals repeat' split
 all_goals first|exact h0|exact bR h0 (xn ..)|skip
theorem UK(p:Program)(listen:Bool)(fr:Frame)(cs:List Frame)(dy:Option Dying)(w:World):w.drawn≤(gW (stepG.oper p listen fr cs dy w)).drawn:=by
 unfold stepG.oper;split
 ·exact aB _
 ·split;all_goals exact vk ..
theorem Vj(p:Program)(main listen:Bool)(fr:Frame)(cs:List Frame)(dy:Option Dying)(w:World):w.drawn≤(gW (stepG.exec p main listen fr cs dy w)).drawn:=by
 have lv:∀(l:Nat)(jump:Option Code),w.drawn≤(gW (GStep.after (seen p fr.fn ((Instr.endRound l jump).runT p w #[]).snd) (match((Instr.endRound l jump).runT p w #[]).fst with| .ok v w=>doReturn p main fr cs dy v w| .halt _ w=>.ended (.stuck "range over a function: no such loop" (fr.pos p)) w))).drawn :=by
  intro l jump;rw[lp];have h0:=cF (Sem.runT_fst p (Instr.endRound l jump) w #[]).symm;split;all_goals (rename_i e;rw[e]at h0)
  ·exact bR h0 (rU ..)
  ·exact h0
 unfold stepG.exec;simp only[];split;all_goals first|exact aB _|exact vk .. |skip
 ·split
  ·exact tV (aB _) (aB _)
  grind
 ·split
  ·exact tV (aB _) (aB _)
  grind
 ·split<;>exact aB _
 ·rename_i id k _;cases exitTo id k with
  |none=>simp only[Option.elim];split;exact tV (aB _) (aB _);grind
  |some k'=>exact aB _
 ·rename_i id k _;cases gotoIn id k with
  |none=>simp only[Option.elim];split;exact tV (aB _) (aB _);grind
  |some k'=>exact aB _
 ·rw[lp];split
  ·rename_i e;exact bR (cF ((Sem.runT_fst ..).symm.trans e)) (vk ..)
  ·rename_i e;exact cF ((Sem.runT_fst ..).symm.trans e)
 ·rw[lp];split<;>rename_i e<;>exact cF ((Sem.runT_fst ..).symm.trans e)
 ·rename_i row _ _ _;cases Extern.next row with
  |none=>exact aB _
  |some e=>grind[vk]
 ·refine tV (aB _) ?_;split<;>rename_i e<;>exact cF e
 ·exact tV (UK ..) (aB _)
theorem PO(p:Program)(main listen:Bool)(g:Goroutine)(w:World):w.drawn≤(gW (stepG p main g w listen)).drawn:=by
 unfold stepG;grind[X7,Vj,Nj]
def sD(n:Nat):Stepped→Prop
 | .next m=>n≤m.world.drawn
 | .ended _ _=>True
theorem sD.trans{n k:Nat}{s:Stepped}(h:n≤k)(g:sD k s):sD n s:=by
 cases s with
 |next m=>exact bR h g
 |ended o w=>trivial
theorem RZ{c:Prop}[Decidable c]{a b:Stepped}{n:Nat}(h1:sD n a)(h2:sD n b):sD n (if c then a else b):=by grind
theorem LA(p:Program)(gs:Array Goroutine)(rest:Rest)(w:World):sD w.drawn (look p gs rest w):=by
 unfold look;simp only[];split
 ·refine RZ trivial ?_;split
  ·trivial
  ·split<;>rename_i e<;>first|exact cF e|trivial
 ·trivial
theorem xL{rest:Rest}{cases:Array CommCase}{w w':World}(h:waitingAt rest cases w=some w'):w'.drawn=w.drawn:=by
 unfold waitingAt at h
 repeat' split at h
 all_goals first|(cases h;done)|(cases h;rfl)
theorem Eh{c:Prop}[Decidable c]{a b:Stepped×Array MemOp}{n:Nat}(h1:sD n a.1)(h2:sD n b.1):sD n (if c then a else b).1:=by grind
theorem BV(p:Program)(rest:Rest)(gs:Array Goroutine)(i:Nat)(g:Goroutine)(cs:Array CommCase)(bl:Bool)(sh:CommShape)(w:World):sD w.drawn (communicate p rest gs i g cs bl sh w).1:=by
 unfold communicate;simp only[];refine Eh trivial (Eh (Eh ?_ (aB _)) ?_)
 ·split
  ·rename_i e;exact tC (xL e).symm
  ·trivial
 ·split
  ·trivial
  ·rename_i w1 e;have h:w.drawn≤w1.drawn:=cF e;clear e;split
   ·split
    ·rename_i e;exact bR h (cF e)
    ·trivial
   ·exact h
   ·exact h
   ·split
    ·exact h
    ·split
     ·rename_i e;exact bR h (cF e)
     ·trivial
   ·exact h
   ·exact h
   ·trivial
theorem P7(p:Program)(m:Machine)(k:Nat):sD m.world.drawn (serve p m k):=by
 unfold serve;split
 ·trivial
 ·exact aB _
 ·simp only[];split
  ·trivial
  ·exact aB _
theorem BG{m m':Machine}{op:TimerOp}{v:Value}(h:timerOp m op=.ok (v,m')):m'.world.drawn=m.world.drawn:=by
 have rt:∀(m:Machine)(k:Nat)(t:Timer)(a b:Nat),(retime m k t a b).2.world.drawn=m.world.drawn:=by
  intro m k t a b;unfold retime drain;grind
 cases op with
 |new t=>
  simp only[timerOp]at h
  repeat' split at h
  all_goals first|(cases h;done)|(cases h;rfl)
 |stop var=>
  simp only[timerOp,timerOp.named]at h;grind
 | reset var a b=>
  simp only[timerOp,timerOp.named,timerOp.opened]at h;split at h
  ·rename_i e;have e2:∀m2:Machine,(if waitedFor m var=true then match Kernel.withPoller m.world.os with| .ok os=>some {m with world:={m.world with os}}| .error _=>none else some m)=some m2→m2.world.drawn=m.world.drawn:=by
    intro m2 e
    repeat' split at e
    all_goals first|(cases e;done)|(cases e;rfl)
   grind
  ·grind
 |deadline a b c d=>simp only[timerOp]at h;cases h;rfl
theorem TL(p:Program)(m:Machine)(i:Nat)(b:Bool):sD m.world.drawn (runT p m i b).1:=by
 unfold runT;simp only[];have h:=PO p (i==0) b (m.gs.swapAt! i {(default:Goroutine)with status:=.finished}).1 m.world;generalize stepG p (i==0) (m.gs.swapAt! i {(default:Goroutine)with status:=.finished}).1 m.world b=s at h ⊢;cases s
 all_goals simp only[]
 all_goals try exact h
 all_goals try trivial
 ·exact sD.trans h (BV ..)
 ·exact RZ trivial h
 ·split
  ·rename_i e;exact bR h (tC (BG e).symm)
  ·split
   ·rename_i e;cases e;exact h
   ·trivial
  ·trivial
  ·trivial
 ·split
  ·exact h
  ·split
   ·rename_i e;cases e;exact h
   ·trivial
  ·trivial
 ·exact sD.trans h (LA ..)
def PY(n:Nat):Move→Prop
 | .goroutine m _=>n≤m.world.drawn
 | .machine s _=>sD n s
theorem PY.trans{n k:Nat}{s:Move}(h:n≤k)(g:PY k s):PY n s:=by
 cases s with
 |goroutine m i=>exact bR h g
 |machine s o=>exact sD.trans h g
theorem Bm(p:Program)(m:Machine):PY m.world.drawn (askOn p m):=by
 have pick:∀(m:Machine)(rs:List Nat),PY m.world.drawn (match(choose (.sched rs.length)).run p m.world with
   | .halt _ w=>.machine (.ended (.stuck "sched" "") w)
   | .ok k world=>
    if rs.length≤1 then .goroutine {m with world} (rs.getD k 0)else
    match(choose (.extern "sched.slice" 65536)).run p world with
    | .halt _ w=>.machine (.ended (.stuck "sched.slice" "") w)
    | .ok n world=>.goroutine {m with world,rest:={m.rest with slice:=if n=0 then none else some (rs.getD k 0,n)}} (rs.getD k 0)):=by
  intro m rs;split
  ·trivial
  ·rename_i w1 e;have h:m.world.drawn≤w1.drawn:=cF e;split
   ·exact h
   ·split
    ·trivial
    ·rename_i e;exact bR h (cF e)
 unfold askOn;simp only[];split
 ·trivial
 ·rename_i k w1 e;have h:m.world.drawn≤w1.drawn:=cF e;clear e;split
  ·exact sD.trans h (P7 p {m with world:=w1} _)
  ·split
   ·split
    ·exact h
    ·split
     ·exact h
     ·split<;>trivial
   ·split
    ·exact PY.trans h (pick {m with world:=w1} _)
    ·split
     ·trivial
     ·rename_i w2 e;exact PY.trans (bR h (cF e)) (pick {m with world:=w2} _)
     ·rename_i e;exact bR h (cF e)
     ·rename_i k2 w2 e;exact PY.trans (bR h (cF e)) (pick (Machine.advanceTo {m with world:=w2} _) _)
theorem M8(p:Program)(m:Machine):PY m.world.drawn (ask p m):=by
 unfold ask;split
 ·split
  ·trivial
  ·rename_i w1 e;have h:m.world.drawn≤w1.drawn:=cF e;have h2:=LA p m.gs m.rest w1;split
   ·rename_i e2;rw[e2]at h2;exact PY.trans (bR h h2) (Bm ..)
   ·exact sD.trans h h2
  ·rename_i w1 _ e;have h:m.world.drawn≤w1.drawn:=cF e;exact PY.trans h (Bm p {m with world:=w1})
 grind[Bm]
theorem Uv(p:Program)(m:Machine):PY m.world.drawn (move p m):=by
 unfold move;split
 ·split
  ·exact aB _
  ·trivial
 ·split
  ·split
   ·exact aB _
   ·exact M8 p {m with rest:={m.rest with slice:=none}}
  grind[M8]
theorem Tu(p:Program)(m:Machine):sD m.world.drawn (step p m):=by
 unfold step stepT;have h:=Uv p m;split
 ·rename_i e;rw[e]at h;exact sD.trans h (TL ..)
 ·rename_i e;rw[e]at h;exact h
theorem LK(p:Program):∀(n:Nat)(m m':Machine),runN p n m=.next m'→m.world.drawn≤m'.world.drawn
 |0,m,m',h=>by cases h;omega
 |n+1,m,m',h=>by
  rw[runN]at h;have h1:=Tu p m;split at h
  ·rename_i e;rw[e]at h1;exact bR h1 (LK p n _ _ h)
  simp_all
theorem PN{p:Program}{m m':Machine}(h:Steps p m m'):m.world.drawn≤m'.world.drawn:=by
 obtain⟨n,h⟩:=h;exact LK p n m m' h
theorem IV{p:Program}{f:FuncId}{args:Array Value}{w:World}{R:Ending→World→Prop}(h:Calls p f args w R):Calls p f args w fun e w'=>R e w'∧((∃v,e=.returned v)→w.drawn≤w'.drawn):=by
 intro cs;obtain⟨e,w',fr,h1,h2,h3,h4⟩:=h cs;refine⟨e,w',fr,⟨h1,?_⟩,h2,h3,h4⟩
 rintro⟨v,rfl⟩
 exact PN (m:=lone _ cs w) (m':=lone fr cs w') h2
end Go.Ev
namespace Go.Ev
open Go Go.RowKit
section
variable{P:Program}{G:eC}{pl:Pl}{M:dt}{h:AHeap}{w w':World}{f:FuncId}{args:List AV}{v:AV}
theorem cG.below(hr:cG pl M h w)(hb:Below w.heap.size w w'):cG pl M h w':=
 ⟨hr.dom,fun id p o h1 h2=>by rw[hb.block _ (hr.blk id p h1)];exact hr.obj id p o h1 h2,fun id p h1=>Fb (hr.blk id p h1) hb.size,hr.inj,
  fun b c h1=>by rw[hb.block _ (hr.memLt h1)];exact hr.imm b c h1,hr.sep⟩
theorem c8.below(hb:Below w.heap.size w w')(hd:w.drawn≤w'.drawn):c8 h pl M w h pl M w':=⟨nw.refl _,fun _ _ h=>h,fun _ _ h=>h,hb.size,fun b h1 _=>hb.block b h1,fun id p h=>.inl ⟨p,h,rfl⟩,fun _ _ _ h=>h,fun _ _ h _=>h,fun _ _ h=>.inl h,hb.os,hb.tape,hb.output,hd⟩
theorem aC.below(hE:∀vs w,(callFunc f vs).run P w=.ok (.enter f vs) w)
  (hC:∀(pl:Pl)(M:dt)(w:World)(vs:Array Value)(h:AHeap),pB G pl M→cG pl M h w→VRels pl M args vs→∃cv,VRel pl M v cv∧Calls P f vs w fun e w'=>e=.returned cv∧Below w.heap.size w w'):aC P G f args v:=by
 intro h pl M w vs hG hr hv;obtain⟨cv,h1,h2⟩:=hC pl M w vs h hG hr hv;refine .inl ⟨hE _ _,Calls.mono (IV h2) fun e w' ⟨⟨he,hb⟩,hd⟩=>?_⟩;exact⟨cv,v,h,he,⟨rfl,rfl⟩,pl,M,h1,hr.below hb,c8.below hb (hd ⟨_,he⟩),aB _⟩
theorem aC.calls(hGT:jW G)(hE:∀vs w,(callFunc f vs).run P w=.ok (.enter f vs) w)(hp:aC P G f args v)(hG:pB G pl M)(hr:cG pl M h w){vs:Array Value}(hv:VRels (fun _=>none) M args vs):
  Calls P f vs w fun e w'=>(∃cv pl' M',e=.returned cv∧VRel pl' M' v cv)∧Below w.heap.size w w'∧w.drawn≤w'.drawn:=by
 have r0:cG (fun _=>none) M AHeap.none w:=⟨fun _ _ h=>(by grind),fun _ _ _ h _=>(by grind),fun _ _ h=>(by grind),fun _ _ _ _ h _ _=>(by grind),hr.imm,fun _ _ h=>(by grind)⟩
 rcases hp AHeap.none (fun _=>none) M w vs (hG.none hGT) r0 hv with⟨_,h2⟩|⟨cv,w1,v1,h1,e1,_,_⟩
 ·refine Calls.mono h2 fun e w' ⟨cv,v1,h1,he,⟨e1,e2⟩,pl',M',g1,g2,g3,_⟩=>?_
  subst e1;exact⟨⟨cv,pl',M',he,g1⟩,⟨g3.os,g3.tape,g3.out,g3.size,fun b hb=>g3.kept b hb fun id p h=>(by grind)⟩,g3.drawn⟩
 ·grind
end
end Go.Ev
namespace Go.Ev
open Go
def Rj(lo hi:Int)(c:UInt8):Bool:=ak (aF (.ofNat c.toNat) lo||aF hi (.ofNat c.toNat))
abbrev km:UInt8→Bool:=Rj 48 57
abbrev YY:UInt8→Bool:=Rj 65 90
def ec(p:UInt8→Bool)(s:aR):Nat:=(s.takeWhile p).length
section
variable{p:UInt8→Bool}{s:aR}
theorem LV:ec p s≤s.length:=(List.takeWhile_prefix p).length_le
theorem LY:∀{s:aR}{i:Nat},i<ec p s→p (gD s i)=true
 |[],i,h=>by simp_all[ec]
 | c::r,i,h=>by
  cases hc:p c with
  |false=>simp_all[ec]
  |true=>
   cases i with
   |zero=>exact hc
   |succ i=>exact LY (s:=r) (by simp_all[ec])
theorem GW:∀{s:aR},ec p s<s.length→p (gD s (ec p s))=false
 |[],h=>by simp_all
 | c::r,h=>by
  cases hc:p c with
  |false=>simp[ec,hc,gD]
  |true=>
   have h2:ec p r<r.length:=by simp_all[ec]
   have:=GW (s:=r) h2;simp_all[ec,gD]
theorem vH:∀{s:aR},ec p s=s.length↔s.all p=true
 |[]=>by simp[ec]
 |c::r=>by
  have ih:ec p r=r.length↔r.all p=true:=vH;cases hc:p c with
  |false=>simp[ec,hc]
  |true=>simp_all[ec]
end
theorem Xu{lo hi:Int}{c:UInt8}(h1:aF hi (.ofNat c.toNat)=true):Rj lo hi c=false:=by grind[Rj]
def ka(s:aR):Bool:=ak (aF (.ofNat (s.take (ec km s)).length) 1)&&(ak (aF 4 (.ofNat (s.take (ec km s)).length))&&(ak (af (.ofNat (gD (s.take (ec km s)) 0).toNat) 48)&&(ak (aF 3 (.ofNat (s.drop (ec km s)).length))&&(s.drop (ec km s)).all YY)))
def sy(s:aR):Bool:=ak (aF (.ofNat s.length) 1)&&(ak (aF 24 (.ofNat s.length))&&s.all (Rj 33 126))
def qp(l:List aR):Bool:=ak (aF 256 (.ofNat l.length))&&l.all sy
theorem Ed:({data:=#[]}:ByteArray).data.toList=([]:List UInt8):=rfl
theorem SV(s:aR):aF (.ofNat s.length) 1=eV s []:=by cases s<;>rfl
def dA{α:Type}(p:α→Bool):List α→Nat→Int
 |[],_=> -1
 |x::r,i=>bif p x then Int.ofNat i else dA p r (i+1)
theorem lm{α:Type}(p:α→Bool):∀(l:List α)(i:Nat),aF (dA p l i) 0=ak (l.any p)
 |[],_=>rfl
 |x::r,i=>by
  unfold dA;rw[mA];cases h:p x with
  |true=>rfl
  |false=>simp_all[lm]
section
variable{α:Type}{p:α→Bool}{l x r:List α}{w:α}{j:Nat}
theorem ou(h1:l.drop j=x)(h2:x=w::r):l.length-(w::r).length=j∧l.length-r.length=j+1:=by grind
theorem mc(h1:l.drop j=x)(h2:x=w::r)(h3:dA p l 0=dA p (w::r) (l.length-(w::r).length))(h4:p w=true):dA p l 0=Int.ofNat j:=by rw[h3,(ou h1 h2).1,dA,h4];rfl
theorem ke(h1:l.drop j=x)(h2:x=w::r)(h3:dA p l 0=dA p (w::r) (l.length-(w::r).length))(h4:p w=false):dA p l 0=dA p r (l.length-r.length):=by rw[h3,(ou h1 h2).1,(ou h1 h2).2,dA,h4];rfl
end
def nK(s:PStep):Bool:=af s.kind 0&&eV s.label []
def tO(s:PStep):Bool:=aF 0 s.kind&&(ak (aF 7 s.kind)&&ka s.label)
def O5:List PStep→Bool
 |[]=>true
 |s::r=>(nK s||tO s)&&r.all tO
def kL(p:List PStep):Bool:=O5 p&&ak (aF 9 (.ofNat p.length))
def Ig(p r:List PStep):Bool:=bif Nat.beq r.length p.length then O5 r else r.all tO
theorem O4{p:List PStep}:O5 p=Ig p p:=by simp_all[Ig]
theorem V5{p:List PStep}:Ig p []=true:=by unfold Ig;cases Nat.beq ([]:List PStep).length p.length<;>rfl
theorem FQ{p x r:List PStep}{w:PStep}{j:Nat}(h1:p.drop j=x)(h2:x=w::r)(h3:O5 p=Ig p (w::r)):O5 p=((bif af (Int.ofNat j) 0 then(nK w||tO w)else tO w)&&Ig p r):=by
 obtain⟨e1,e2⟩:=ou h1 h2;have e3:=congrArg List.length (h1.trans h2);simp only[wm,cR]at e1 e2 e3;have f1:Nat.beq r.length p.length=false:=by cases h:Nat.beq r.length p.length with|false=>rfl|true=>grind[Nat.eq_of_beq_eq_true]
 rw[h3];unfold Ig;rw[f1];cases j with
 |zero=>
  have f2:Nat.beq (w::r).length p.length=true:=by simp_all
  rw[f2];rfl
 |succ j=>
  have f2:Nat.beq (w::r).length p.length=false:=by cases h:Nat.beq (w::r).length p.length with|false=>rfl|true=>simp_all
  rw[f2];rfl
def c9:Int→aR
 |0=>[98,111,111,107]
 |1=>[112,97,114,116]
 |2=>[115,101,99,116,105,111,110]
 |3=>[112,97,114,97,103,114,97,112,104]
 |4=>[116,97,98,108,101]
 |5=>[114,111,119]
 |6=>[99,101,108,108]
 |7=>[110,111,116,101]
 |_=>[]
def IL:Int→List Int
 |0=>[1,2]
 |1=>[2]
 |2=>[3,4,7]
 |3=>[3,4,7]
 |4=>[5]
 |5=>[6]
 |_=>[]
def jf(p k:Int):Bool:=(IL p).any (af k)
theorem Jh{k:Int}(h:k<0∨7<k):c9 k=[]:=by
 unfold c9;grind
theorem II{k:Int}(h:k<0∨7<k):IL k=[]:=by
 unfold IL;grind
end Go.Ev
namespace Go.Ev
open Go Go.RowKit Go.Proofs
structure ClassOf(p:UInt8→Bool)(q:Nat→Bool):Prop where
 low:∀c:UInt8,c.toNat<128→q c.toNat=ak (p c)
 high:∀n,128≤n→q n=true
 none:∀c:UInt8,128≤c.toNat→p c=false
theorem VW{s:aR}{i:Nat}(h:i<s.length)(h2:i<ByteArray.size ⟨⟨s⟩⟩):(ByteArray.mk ⟨s⟩)[i]'h2=gD s i:=by
 simp[gD,List.getD,lw h];rfl
theorem uD{p:UInt8→Bool}{q:Nat→Bool}(hc:ClassOf p q)(s:aR):∀(f pos:Nat),pos≤ec p s→s.length≤pos+f→Lib.idxFuncFrom q true ⟨⟨s⟩⟩ f pos=(bif Nat.beq (ec p s) s.length then -1 else Int.ofNat (ec p s))
 | f,pos,h1,h2=>by
  have hl:=LV (p:=p) (s:=s);have hsz:ByteArray.size ⟨⟨s⟩⟩=s.length:=rfl;by_cases he:pos<s.length
  ·cases f with
   |zero=>omega
   | succ f=>
    unfold Lib.idxFuncFrom;rw[hsz,if_pos he];have hb:=VW he (by rw[hsz];exact he);by_cases hr:pos<ec p s
    ·have hp:=LY hr;have ha:(gD s pos).toNat<128:=by
      rcases fu (gD s pos).toNat 128 with h|h
      ·exact h
      ·rw[hc.none _ h]at hp;cases hp
     rw[decode_ascii _ pos (by rw[hsz];exact he) (by rw[hb];exact ha),hb];rw[if_neg (by rw[hc.low _ ha,hp];decide)];exact uD hc s f (pos+1) hr (by omega)
    ·have e:ec p s=pos:=by omega
     have hp:=GW (p:=p) (s:=s) (by omega);rw[e]at hp;have hq:q (Utf8.decode ⟨⟨s⟩⟩ pos).1=true:=by
      rcases fu (gD s pos).toNat 128 with h|h
      ·rw[decode_ascii _ pos (by rw[hsz];exact he) (by rw[hb];exact h),hb,hc.low _ h,hp];rfl
      ·exact hc.high _ (decode_high _ pos (by rw[hsz];exact he) (by rw[hb];exact h)).1
     rw[if_pos hq,e];have f1:Nat.beq pos s.length=false:=by cases h:Nat.beq pos s.length with|false=>rfl|true=>have:=pC h;omega
     rw[f1];rfl
  ·have e:ec p s=s.length:=by omega
   rw[Lib.idxFuncFrom_end _ _ _ _ _ (by rw[hsz];exact he),e,qz];rfl
theorem xe{p:UInt8→Bool}{q:Nat→Bool}(hc:ClassOf p q)(s:aR):Lib.idxFunc q true ⟨⟨s⟩⟩=(bif Nat.beq (ec p s) s.length then -1 else Int.ofNat (ec p s)):=uD hc s _ 0 (bL _) (by show s.length≤0+s.length;omega)
section
variable{P:Program}{G:eC}{f g:FuncId}
theorem CG{pl:Pl}{M:dt}{w:World}{h:AHeap}(hGT:jW G)(hg2:∀args w,(callFunc g args).run P w=.ok (.enter g args) w){q:Nat→Bool}{qI:Int→Bool}(hp:∀r:Int,aC P G g [.int .i32 r] (.bool (qI r)))(hq:∀n:Nat,qI (.ofNat n)=q n)
  (hG:pB G pl M)(hr:cG pl M h w):PredGrows P g #[] q w:=by
 intro W x _ hb;refine Calls.mono (aC.calls hGT hg2 (hp (.ofNat x)) hG (hr.below hb) (vs:=#[.int .i32 (.ofNat x)]) ⟨rfl,fun j y hj=>?_⟩) fun e w' ⟨⟨cv,pl',M',he,hv⟩,hb',_⟩=>?_
 ·cases j with
  |zero=>simp at hj;subst hj;exact .int _ _
  |succ j=>simp_all
 grind[cases VRel]
theorem Ao(hGT:jW G)(hE:∀vs w,(callFunc f vs).run P w=.ok (.enter f vs) w)(hg2:∀args w,(callFunc g args).run P w=.ok (.enter g args) w){q:Nat→Bool}{qI:Int→Bool}
  (hC:∀(s:ByteArray)(w:World),PredGrows P g #[] q w→Calls P f #[.string s,.func (.func g) #[] #[]] w fun e w'=>e=.returned (.int .i64 (Lib.idxFunc q true s))∧Below w.heap.size w w')
  (hp:∀r:Int,aC P G g [.int .i32 r] (.bool (qI r)))(hq:∀n:Nat,qI (.ofNat n)=q n){p:UInt8→Bool}(hc:ClassOf p q)(s:aR):
  aC P G f [.str s,.func (.func g) [] []] (.int .i64 (bif Nat.beq (ec p s) s.length then -1 else Int.ofNat (ec p s))):=by
 refine aC.below hE fun pl M w vs h hG hr hv=>?_
 obtain⟨a,b,rfl,hv1,hv2⟩:=Bp hv;have e2:=zB hv2;subst e2;cases hv1
 rw[←xe hc s];exact⟨_,.int _ _,hC ⟨⟨s⟩⟩ w (CG hGT hg2 hp hq hG hr)⟩
theorem vW(hGT:jW G)(hE:∀vs w,(callFunc f vs).run P w=.ok (.enter f vs) w)(hg2:∀args w,(callFunc g args).run P w=.ok (.enter g args) w){q:Nat→Bool}{qI:Int→Bool}
  (hC:∀(s:ByteArray)(w:World),PredGrows P g #[] q w→Calls P f #[.string s,.func (.func g) #[] #[]] w fun e w'=>e=.returned (.bool (decide (0≤Lib.idxFunc q true s)))∧Below w.heap.size w w')
  (hp:∀r:Int,aC P G g [.int .i32 r] (.bool (qI r)))(hq:∀n:Nat,qI (.ofNat n)=q n){p:UInt8→Bool}(hc:ClassOf p q)(s:aR):
  aC P G f [.str s,.func (.func g) [] []] (.bool (ak (s.all p))):=by
 refine aC.below hE fun pl M w vs h hG hr hv=>?_
 obtain⟨a,b,rfl,hv1,hv2⟩:=Bp hv;have e2:=zB hv2;subst e2;cases hv1
 have e:ak (s.all p)=decide (0≤Lib.idxFunc q true ⟨⟨s⟩⟩):=by
  rw[xe hc s];cases ha:s.all p with
  |true=>rw[(vH (p:=p)).2 ha,qz];rfl
  | false=>
   have:Nat.beq (ec p s) s.length=false:=by
    cases hb:Nat.beq (ec p s) s.length with
    |false=>rfl
    |true=>grind[vH,Nat.eq_of_beq_eq_true]
   simp_all
 rw[e];exact⟨_,.bool _,hC ⟨⟨s⟩⟩ w (CG hGT hg2 hp hq hG hr)⟩
end
theorem H8{lo hi:Nat}(h:hi<128):ClassOf (Rj (Int.ofNat lo) (Int.ofNat hi)) fun n=>aF (Int.ofNat n) (Int.ofNat lo)||aF (Int.ofNat hi) (Int.ofNat n) where
 low c _:=by unfold Rj;simp_all
 high n hn:=by rw[show aF (Int.ofNat hi) (Int.ofNat n)=true from kF (by grind)];simp_all
 none c hn:=Xu (kF (by grind))
end Go.Ev
namespace Go.Ev
open Go Go.RowKit
section
variable{P:Program}{G:eC}{f:FuncId}
theorem IR{pl:Pl}{M:dt}{w:World}{h:AHeap}(hr:cG pl M h w){l:List aR}{a:Addr}{n cap:Nat}(hv:VRel pl M (.ps (l.map nQ) false) (.slice (some a) n cap))(hne:l≠[]):
  n=l.length∧n≤cap∧a=⟨a.block,a.off,none⟩∧a.block<w.heap.size∧∀(j:Nat)(x:ByteArray),(l.map fun s=>(⟨⟨s⟩⟩:ByteArray))[j]?=some x→w.cell? ⟨a.block,a.off+j,none⟩=some (.string x):=by
 cases hv with
 | ps hl ht hm hs hc=>
  rename_i sz c;have hne':l.map nQ≠[]:=by simp_all
  obtain⟨m1,m2,m3,m4⟩:=hm hne';obtain⟨t,fr,hb⟩:=hr.imm _ _ m2;have hsz:sz=1:=by
   cases l with
   |nil=>simp_all
   |cons s r=>exact((hs (nQ s) (by simp)).1).symm
  subst hsz;refine⟨by simp,hl,by rw[←m1],hr.memLt m2,fun j x hj=>?_⟩;rw[qv]at hj;obtain⟨s,e1,rfl⟩:=Fy.1 hj;have hlt:j<l.length:=(gn.1 e1).1;have q:=hc j (nQ s) 0 (.str s) (by simp_all) rfl;rw[Nat.mul_one,pE]at q;have hin:a.off+j<c.size:=by grind
  have e2:c[a.off+j]?=some (c.getD (a.off+j) undef):=by simp_all
  simp only[World.cell?,hb];simp only[Option.isSome_none,gi,if_false];rw[e2];cases hq:c.getD (a.off+j) undef<;>rw[hq]at q<;>cases q
  rfl
theorem N9(hE:∀vs w,(callFunc f vs).run P w=.ok (.enter f vs) w)
  (hC:∀(bk o c:Nat)(xs:List ByteArray)(sep:ByteArray)(w:World),(∀(j:Nat) x,xs[j]?=some x→w.cell? ⟨bk,o+j,none⟩=some (.string x))→bk<w.heap.size→xs.length≤140737488355328→xs.length≤c→
   (Lib.join (xs.map (·.data.toList)) sep.data.toList).length≤140737488355328→
   Calls P f #[.slice (some ⟨bk,o,none⟩) xs.length c,.string sep] w fun e w'=>e=.returned (.string ⟨(Lib.join (xs.map (·.data.toList)) sep.data.toList).toArray⟩)∧Below w.heap.size w w')
  (hN:∀(a:Option Addr)(c:Nat)(sep:ByteArray)(w:World),Calls P f #[.slice a 0 c,.string sep] w fun e w'=>e=.returned (.string ⟨#[]⟩)∧w'=w)
  (l:List aR)(sep:aR)(h1:l.length≤140737488355328)(h2:(Lib.join l sep).length≤140737488355328):aC P G f [.ls (l.map nQ),.str sep] (.str (Lib.join l sep)):=by
 refine aC.below hE fun pl M w vs h hG hr hv=>?_
 obtain⟨a,b,rfl,hv1,hv2⟩:=Bp hv;cases hv2
 have nil (p:Option Addr) (cap:Nat) (hl:l=[]):∃cv,VRel pl M (.str (Lib.join l sep)) cv∧Calls P f #[.slice p 0 cap,.string ⟨⟨sep⟩⟩] w fun e w'=>e=.returned cv∧Below w.heap.size w w':=by
  subst hl;exact⟨.string ⟨⟨[]⟩⟩,.str _,Calls.mono (hN p cap ⟨⟨sep⟩⟩ w) fun e w' ⟨he,hw⟩=>⟨he,hw▸Below.refl _ _⟩⟩
 generalize hx:l.map nQ=xs at hv1;cases hv1 with
 |lsn=>simp_all
 | lsp hp ht=>
  subst hx;by_cases hl:l=[]
  ·subst hl;cases hp with
   |ps=>simp_all
  ·have hp':=hp;cases hp with
   |ps=>
    rename_i a cap sz c _ _ _ _ _;obtain⟨e1,e2,e3,e4,e5⟩:=IR hr hp' hl;have e6:(l.map fun s=>(⟨⟨s⟩⟩:ByteArray)).map (·.data.toList)=l:=by rw[List.map_map];exact List.map_id l
    have:=hC a.block a.off cap (l.map fun s=>⟨⟨s⟩⟩) ⟨⟨sep⟩⟩ w e5 e4 (by grind) (by grind) (by grind);rw[e6,←e3,cZ,←e1]at this;exact⟨.string ⟨⟨Lib.join l sep⟩⟩,.str _,this⟩
theorem GK(hE:∀vs w,(callFunc f vs).run P w=.ok (.enter f vs) w)
  (hC:∀(s:ByteArray)(c:Nat)(w:World),c≤9223372036854775807→s.size*c≤140737488355328→Calls P f #[.string s,.int .i64 c] w fun e w'=>e=.returned (.string ⟨(Lib.repeatL s.data.toList c).toArray⟩)∧Below w.heap.size w w')
  (s:aR)(c:Nat)(h1:c≤9223372036854775807)(h2:s.length*c≤140737488355328):aC P G f [.str s,.int .i64 (.ofNat c)] (.str (Lib.repeatL s c)):=by
 refine aC.below hE fun pl M w vs h hG hr hv=>?_
 obtain⟨a,b,rfl,hv1,hv2⟩:=Bp hv;cases hv1;cases hv2
 exact⟨.string ⟨⟨Lib.repeatL s c⟩⟩,.str _,hC ⟨⟨s⟩⟩ c w h1 h2⟩
theorem Nk(hE:∀vs w,(callFunc f vs).run P w=.ok (.enter f vs) w)
  (hC:∀(s cs:ByteArray)(w:World),s.size≤9223372036854775807→cs.size<4294967281→(∀(j:Nat) b,cs.data.toList[j]?=some b→b.toNat<128)→
   Calls P f #[.string s,.string cs] w fun e w'=>e=.returned (.string ⟨(Lib.trimS s.data.toList cs.data.toList).toArray⟩)∧Below w.heap.size w w')
  (s cs:aR)(h1:s.length≤9223372036854775807)(h2:cs.length<4294967281)(h3:∀b,b∈cs→b.toNat<128):aC P G f [.str s,.str cs] (.str (Lib.trimS s cs)):=by
 refine aC.below hE fun pl M w vs h hG hr hv=>?_
 obtain⟨a,b,rfl,hv1,hv2⟩:=Bp hv;cases hv1;cases hv2
 exact⟨.string ⟨⟨Lib.trimS s cs⟩⟩,.str _,hC ⟨⟨s⟩⟩ ⟨⟨cs⟩⟩ w h1 h2 fun j b hj=>h3 b (bm hj)⟩
end
end Go.Ev
namespace Go.Ev
open Go
structure PId where
 a:Int
 i:Int
 n:Int
 deriving Inhabited,DecidableEq
noncomputable def aU(p:PId):AV:=.agg [.int .i64 p.a,.int .i64 p.i,.int .i64 p.n]
theorem J0(p:PId):(aU p).top=0:=rfl
def bw(u:TUnit):PId:=⟨u.act,u.item,u.n⟩
def bB(p q:PId):Bool:=af p.a q.a&&(af p.i q.i&&af p.n q.n)
theorem uL{p q:PId}(h:bB p q=true):p=q:=by
 unfold bB at h;rw[bq,bq]at h;obtain⟨a,b,c⟩:=p;obtain⟨d,e,g⟩:=q;grind[fL]
theorem lJ(p:PId):bB p p=true:=by simp[bB,bZ]
abbrev fO(p:PId)(u:TUnit):Bool:=bB (bw u) p
theorem Jn:KeyOf PId true 3 [(0,1),(1,1),(2,1)] aU bB where
 eq a b:=by
  show yZ [.int .i64 a.a,.int .i64 a.i,.int .i64 a.n] [.int .i64 b.a,.int .i64 b.i,.int .i64 b.n] [(0,1),(1,1),(2,1)]=_
  simp only[yZ,ju,Tc,JO,kG,bB];cases h1:af a.a b.a<;>cases h2:af a.i b.i<;>cases h3:af a.n b.n<;>rfl
 t a b h:=uL h
 refl a:=lJ a
 same a:=by simp[aU,mb,jF,j5,kG,bZ]
 top a:=rfl
mutual
def nU:TUnit→Nat
 |⟨_,_,_,_,_,_,_,ks⟩=>1+eJ ks
def eJ:List TUnit→Nat
 |[]=>0
 |k::r=>nU k+eJ r
end
mutual
def nZ:TUnit→Nat
 |⟨_,_,_,_,_,_,_,ks⟩=>kH ks
def kH:List TUnit→Nat
 |[]=>0
 |k::r=>Nat.max (1+nZ k) (kH r)
end
mutual
def bu:TUnit→List TUnit
 |⟨x1,x2,x3,x4,x5,x6,x7,ks⟩=>⟨x1,x2,x3,x4,x5,x6,x7,ks⟩::dr ks
def dr:List TUnit→List TUnit
 |[]=>[]
 |k::r=>bu k++dr r
end
mutual
def aI(p:PId):TUnit→List TUnit
 |⟨x1,x2,x3,x4,x5,x6,x7,ks⟩=>bif fO p ⟨x1,x2,x3,x4,x5,x6,x7,ks⟩then[⟨x1,x2,x3,x4,x5,x6,x7,ks⟩]else match cn p ks with
  |[]=>[]
  |y::t=>⟨x1,x2,x3,x4,x5,x6,x7,ks⟩::y::t
def cn(p:PId):List TUnit→List TUnit
 |[]=>[]
 |k::r=>match aI p k with
  |[]=>cn p r
  |y::t=>y::t
end
theorem jy(u:TUnit):nU u=1+eJ u.kids:=by cases u;rw[nU];rfl
theorem mw:eJ []=0:=by rw[eJ]
theorem bi(k:TUnit)(r:List TUnit):eJ (k::r)=nU k+eJ r:=by rw[eJ]
theorem Mk(u:TUnit):nZ u=kH u.kids:=by cases u;rw[nZ];rfl
theorem Dg:kH []=0:=by rw[kH]
theorem J4(k:TUnit)(r:List TUnit):kH (k::r)=Nat.max (1+nZ k) (kH r):=by rw[kH]
theorem dj(u:TUnit):bu u=u::dr u.kids:=by cases u;rw[bu];rfl
theorem gZ:dr []=[]:=by rw[dr]
theorem bN(k:TUnit)(r:List TUnit):dr (k::r)=bu k++dr r:=by rw[dr]
def dz(u:TUnit):List PId:=(bu u).map bw
def iD(l:List TUnit):List PId:=(dr l).map bw
theorem nr(u:TUnit):dz u=bw u::iD u.kids:=by unfold dz iD;rw[dj];rfl
theorem rG:iD []=[]:=by unfold iD;rw[gZ];rfl
theorem gc(k:TUnit)(r:List TUnit):iD (k::r)=dz k++iD r:=by grind[dz,iD,bN]
theorem Ex:∀{l:List TUnit}{k:TUnit},k∈l→nU k≤eJ l
 |x::r,k,h=>by
  rw[bi];rcases fQ.1 h with rfl|h
  ·omega
  ·have:=Ex h;omega
theorem io{u k:TUnit}(h:k∈u.kids):nU k<nU u:=by rw[jy u];have:=Ex h;omega
theorem Jb(u:TUnit):0<nU u:=by grind[jy]
theorem yn:∀(l:List TUnit),l.length≤eJ l
 |[]=>by simp_all
 |k::r=>by
  rw[bi,cR];have:=yn r;grind[Jb]
theorem bg(u:TUnit):u.kids.length<nU u:=by grind[jy,yn]
theorem NB{l:List TUnit}(h:∀k,k∈l→(bu k).length=nU k):(dr l).length=eJ l:=by
 induction l with
 |nil=>rw[gZ,mw];rfl
 |cons k r ih=>grind[bN,bi]
theorem Gx:∀(u:TUnit),(bu u).length=nU u:=TUnit.ind fun u ih=>by grind[dj,jy,NB]
theorem uE(u:TUnit):(dz u).length=nU u:=by grind[dz,Gx]
theorem Sw{l:List TUnit}{n:Nat}(h:∀k,k∈l→1+nZ k≤n):kH l≤n:=by
 induction l with
 |nil=>grind[Dg]
 |cons k r ih=>grind[J4]
theorem EI:∀(u:TUnit),nZ u<nU u:=TUnit.ind fun u ih=>by
 have:kH u.kids≤eJ u.kids:=Sw fun k hk=>by have:=ih k hk;have:=Ex hk;omega
 grind[Mk,jy]
section
variable{p:PId}{u w:TUnit}{r:List TUnit}
theorem gm(u:TUnit):aI p u=bif fO p u then[u]else match cn p u.kids with|[]=>[]|y::t=>u::y::t:=by cases u;rw[aI];rfl
theorem kS:cn p []=[]:=by rw[cn]
theorem o3(k:TUnit)(r:List TUnit):cn p (k::r)=match aI p k with|[]=>cn p r|y::t=>y::t:=by rw[cn]
def cV(p:PId)(u:TUnit):Bool:=ak (aI p u).isEmpty
theorem At(h:cV p u=false):aI p u=[]:=by grind[cV]
theorem wq(h:cV p u=true):∃y t,aI p u=y::t:=by
 unfold cV at h;cases e:aI p u with
 |nil=>grind
 |cons x r=>simp_all
theorem lj(h:cV p u=true):aI p u≠[]:=by grind[wq]
theorem rf(h:fO p u=true):aI p u=[u]:=by rw[gm,h];rfl
theorem Ep(h:fO p u=true):cV p u=true:=by unfold cV;rw[rf h];rfl
theorem jJ(h:cV p w=false):cn p (w::r)=cn p r:=by rw[o3,At h]
theorem oQ(h:cV p w=true):cn p (w::r)=aI p w:=by grind[wq,o3]
theorem Pn(h:fO p u=false)(h2:cn p u.kids=cn p []):aI p u=[]:=by rw[gm,h,h2,kS];rfl
theorem HW(h:fO p u=false)(h2:cn p u.kids=cn p []):cV p u=false:=by unfold cV;rw[Pn h h2];rfl
theorem KG(h:fO p u=false)(h2:cn p u.kids=cn p (w::r))(h3:cV p w=true):aI p u=u::aI p w:=by grind[gm,oQ,wq]
theorem U6(h:fO p u=false)(h2:cn p u.kids=cn p (w::r))(h3:cV p w=true):cV p u=true:=by unfold cV;rw[KG h h2 h3];rfl
end
theorem mz{p:PId}:∀(u:TUnit),(aI p u).length≤nU u:=TUnit.ind fun u ih=>by
 rw[gm];cases fO p u with
 |true=>exact Jb u
 | false=>
  have key:∀(r:List TUnit),(∀k,k∈r→k∈u.kids)→(cn p r).length≤eJ r:=by
   intro r;induction r with
   |nil=>grind[kS]
   |cons k r ihr=>grind[o3,bi]
  grind[jy]
def bf:TUnit:=⟨0,0,0,0,[],[],[],[]⟩
noncomputable def ee(p:PId)(u:TUnit):TUnit:=bif cV p u then gD (aI p u) ((aI p u).length -1)else bf
theorem KI{p:PId}:∀(u:TUnit)(x:TUnit),x∈aI p u→x∈bu u:=TUnit.ind fun u ih=>by
 intro x hx;rw[gm]at hx;rw[dj];cases h:fO p u with
 |true=>simp_all
 | false=>
  rw[h]at hx;simp only[cond_false]at hx;have key:∀(r:List TUnit),(∀k,k∈r→k∈u.kids)→∀x,x∈cn p r→x∈dr r:=by
   intro r;induction r with
   |nil=>grind[kS]
   |cons k r ihr=>grind[o3,bN]
  grind
noncomputable def pL(p:Int×aR):AV:=.agg [.int .i64 p.1,.str p.2]
def m8(a b:Int×aR):Bool:=af a.1 b.1&&eV a.2 b.2
theorem rJ:∀(s:aR),eV s s=true
 |[]=>rfl
 |c::r=>by simp only[eV,rJ r,Bool.and_true];simp_all
theorem Hu:∀{a b:aR},eV a b=true→a=b
 |[],[],_=>rfl
 |c::r,d::q,h=>by
  simp only[eV,bq]at h;rw[Hu h.2,UInt8.toNat_inj.1 (pC h.1)]
theorem LN:KeyOf (Int×aR) true 2 [(0,1),(1,2)] pL m8 where
 eq a b:=by
  show yZ [.int .i64 a.1,.str a.2] [.int .i64 b.1,.str b.2] [(0,1),(1,2)]=_
  simp only[yZ,ju,Tc,JO,kG,m8];cases h1:af a.1 b.1<;>cases h2:eV a.2 b.2<;>rfl
 t a b h:=by
  simp only[m8,bq]at h;grind[fL,Hu]
 refl a:=by simp[m8,bZ,rJ]
 same a:=by simp[pL,mb,jF,j5,kG,bZ,rJ]
 top a:=rfl
noncomputable def dx(b:Bool):AV:=.bool b
theorem A8(b:Bool):(dx b).top=0:=rfl
def PU{K:Type}(keq:K→K→Bool)(k:K)(l:List (K×Bool)):Bool:=(iS keq k l).getD false
section
variable{K:Type}{ag:Bool}{sz:Nat}{lv:List (Nat×Nat)}{kenc:K→AV}{keq:K→K→Bool}
theorem GC(hk:KeyOf K ag sz lv kenc keq)(m:List (K×Bool))(k:K):eO (some (.bool false)) false (be ag sz lv (kenc k) (cW kenc dx m 0) 0)=some (.bool (PU keq k m)):=by
 rw[Aa hk];unfold PU;cases iS keq k m with
 |none=>rfl
 |some v=>rfl
theorem KL(hk:KeyOf K ag sz lv kenc keq)(m:List (K×Bool))(k:K):sY (cW kenc dx m 0) m.length (kenc k) (.bool true) (be ag sz lv (kenc k) (cW kenc dx m 0) 0)=some (cW kenc dx (fV keq k true m) 0,(fV keq k true m).length):=Cl (f:=dx) hk k true m
end
def oS(l:List PWord):Bool:=ak (aF 256 (.ofNat l.length))&&qp (l.map fun w=>w.text)
def mT(pk:Int):List TUnit→List ((Int×aR)×Bool)→Bool
 |[],_=>true
 |k::r,m=>jf pk k.kind&&(ak (PU m8 (k.kind,k.label) m)&&mT pk r (fV m8 (k.kind,k.label) true m))
def mK(u:TUnit):Bool:=(bif af u.kind 0 then eV u.label []&&ak (aF 0 (.ofNat (u.head.length+u.words.length)))else ak (eV (c9 u.kind) [])&&(ka u.label&&(oS u.head&&oS u.words)))&&(mT u.kind u.kids []&&ak (aF 64 (.ofNat u.kids.length)))
def wg(q:TUnit→Bool)(u:TUnit):Bool:=(bu u).all q
theorem yM(q:TUnit→Bool)(u:TUnit):wg q u=(q u&&(dr u.kids).all q):=by grind[wg,dj]
theorem O3(q:TUnit→Bool):(dr []).all q=true:=by rw[gZ];rfl
theorem Bu(q:TUnit→Bool)(k:TUnit)(r:List TUnit):(dr (k::r)).all q=(wg q k&&(dr r).all q):=by rw[bN,List.all_append];rfl
def CA(l:List PId)(m:List (PId×Bool)):List (PId×Bool):=l.foldl (fun m p=>fV bB p true m) m
def bT:PId:=⟨0,0,0⟩
def Rc(u:TUnit):Bool:=(PU bB bT (CA (dz u) [])&&af (.ofNat (CA (dz u) []).length) 1)||(af (.ofNat (CA (dz u) []).length) (.ofNat (dz u).length)&&(af u.kind 0==fO bT u))
def kT(u:TUnit):Bool:=wg mK u&&(ak (aF 8 (.ofNat (nZ u)))&&(ak (aF 1024 (.ofNat (nU u)))&&Rc u))
theorem bC{u k:TUnit}(h:k∈u.kids){x:TUnit}(hx:x∈bu k):x∈bu u:=by
 rw[dj];refine eW _ ?_;generalize u.kids=l at h;induction l with
 |nil=>grind
 |cons y r ih=>grind[bN]
theorem dU(u:TUnit):u∈bu u:=by grind[dj]
theorem LM{u k:TUnit}(h:k∈u.kids):k∈bu u:=bC h (dU k)
end Go.Ev
namespace Go.Ev
open Go
def cN{α:Type}(q:α→α→Bool):List α→List α→Bool
 |[],[]=>true
 |x::l,y::m=>q x y&&cN q l m
 |_,_=>false
theorem om{α:Type}{q:α→α→Bool}:∀{l m:List α},l.length≠m.length→cN q l m=false
 |[],[],h=>absurd rfl h
 |[],y::m,_=>rfl
 |x::l,[],_=>rfl
 |x::l,y::m,h=>by
  unfold cN;rw[om (l:=l) (m:=m) (fun e=>h (by simp[e]))];exact tD _
theorem Ht{α:Type}{q:α→α→Bool}(hq:∀a b,q a b=true↔a=b):∀{l m:List α},cN q l m=true↔l=m
 |[],[]=>by simp[cN]
 |[],y::m=>by simp[cN]
 |x::l,[]=>by simp[cN]
 |x::l,y::m=>by simp[cN,hq,Ht hq (l:=l) (m:=m)]
section
variable{α:Type}[Inhabited α]{q:α→α→Bool}{l m x r:List α}{w:α}{j:Nat}
theorem yF{m:List α}{j:Nat}(h:j<m.length):m.drop j=gD m j::m.drop (j+1):=by grind[List.drop_eq_getElem_cons,gD]
theorem lk(h1:l.drop j=x)(h2:x=w::r)(hl:l.length=m.length)(h3:cN q l m=cN q (w::r) (m.drop (l.length-(w::r).length))):cN q l m=(q w (gD m j)&&cN q r (m.drop (l.length-r.length))):=by
 have e:=congrArg List.length (h1.trans h2);simp only[wm,cR]at e;rw[h3,(ou h1 h2).1,(ou h1 h2).2,yF (by omega),cN]
omit [Inhabited α]in
theorem rW(hl:l.length=m.length)(h3:cN q l m=cN q [] (m.drop (l.length-([]:List α).length))):cN q l m=true:=by rw[h3,gN,Nat.sub_zero,hl,List.drop_length];rfl
end
def MK(a b:PWord):Bool:=eV a.text b.text&&(af a.act b.act&&(af a.item b.item&&af a.at_ b.at_))
theorem Vw(a b:PWord):MK a b=true↔a=b:=by
 obtain⟨t,x,y,z⟩:=a;obtain⟨t',x',y',z'⟩:=b;simp only[MK,bq,PWord.mk.injEq];constructor
 ·grind[Hu,fL]
 ·grind[rJ,bZ]
mutual
def Hr:TUnit→TUnit→Bool
 |⟨a,i,n,k,l,h,w,ks⟩,v=>bB ⟨a,i,n⟩ (bw v)&&(af k v.kind&&(eV l v.label&&(cN MK h v.head&&(cN MK w v.words&&Oe ks v.kids))))
def Oe:List TUnit→List TUnit→Bool
 |[],[]=>true
 |k::r,[]=>false
 |k::r,x::s=>Hr k x&&Oe r s
 |[],x::s=>false
end
theorem R8(u v:TUnit):Hr u v=(bB (bw u) (bw v)&&(af u.kind v.kind&&(eV u.label v.label&&(cN MK u.head v.head&&(cN MK u.words v.words&&cN Hr u.kids v.kids))))):=by
 have key:∀(l m:List TUnit),Oe l m=cN Hr l m:=by
  intro l;induction l with
  |nil=>intro m;cases m<;>(rw[Oe];rfl)
  |cons x l ih=>intro m;cases m with|nil=>rw[Oe];rfl|cons y m=>rw[Oe,ih];rfl
 cases u
 rw[Hr,key];rfl
theorem Vv:∀(u v:TUnit),Hr u v=true↔u=v:=TUnit.ind fun u ih=>by
 have key:∀(l:List TUnit),(∀k,k∈l→k∈u.kids)→∀m,cN Hr l m=true↔l=m:=by
  intro l;induction l with
  |nil=>grind[cN]
  |cons x l ihl=>
   intro hm m;cases m with
   |nil=>simp[cN]
   |cons y m=>grind[cN]
 intro v;rw[R8];simp only[bq,key u.kids (fun _ h=>h),Ht Vw];obtain⟨a,i,n,k,l,h,w,ks⟩:=u;obtain⟨a',i',n',k',l',h',w',ks'⟩:=v;simp only[TUnit.mk.injEq,bw,TUnit.act,TUnit.item,TUnit.n,TUnit.kind,TUnit.label,TUnit.head,TUnit.words,TUnit.kids];constructor
 ·grind[uL,fL,Hu]
 ·rintro⟨rfl,rfl,rfl,rfl,rfl,rfl,rfl,rfl⟩
  exact⟨lJ _,bZ _,rJ _,rfl,rfl,rfl⟩
end Go.Ev
namespace Go.Ev
open Go
def It(u v:AV):Prop:=(Sc v→Sc u)∧Les u.cells v.cells
theorem It.refl(v:AV):It v v:=⟨id,Les.refl _⟩
theorem It.one{u v:AV}(hu:u.cells=[u])(hv:v.cells=[v])(hs:cL u=true)(h:Le u v):It u v:=⟨fun _ y hy=>by simp_all,by rw[hu,hv];exact .cons h .nil⟩
inductive LesC:List AV→List AV→Prop
 |nil:LesC [] []
 |cons {u v:AV} {us vs:List AV} (h:It u v) (k:LesC us vs):LesC (u::us) (v::vs)
theorem LesC.len{us vs:List AV}(h:LesC us vs):us.length=vs.length:=by
 induction h with
 |nil=>rfl
 |cons _ _ ih=>simp_all
theorem LesC.at_{us vs:List AV}(h:LesC us vs):∀(j:Nat)(u:AV),us[j]?=some u→∃v,vs[j]?=some v∧It u v:=by
 induction h with
 |nil=>simp_all
 |cons h k ih=>grind
theorem FY{xs ys:List AV}{t:Bool}(h:LesC xs ys):Le (.ps xs false) (.ps ys t):=fun pl M v hv=>by
 cases hv with
 | @ps _ _ a cap sz c hl ht hm hs hc=>
  rw[←h.len];refine .ps (sz:=sz) (c:=c) (by rw[h.len];omega) (fun h=>by grind) (fun hx=>?_) (fun x hx=>?_) fun i x j y hx hy=>?_
  ·have:ys≠[]:=fun e=>hx (sk (by rw[h.len,e];rfl))
   rw[h.len];simp_all
  ·obtain⟨i,hi⟩:=Cb hx;obtain⟨y,h1,h2,h3⟩:=h.at_ i x hi;have:=hs y (bm h1);exact⟨h3.len.trans this.1,h2 this.2⟩
  ·obtain⟨z,h1,_,h3⟩:=h.at_ i x hx;obtain⟨d,h4,h5⟩:=h3.at_ j y hy;exact h5 _ _ _ (hc i z j d h1 h4)
theorem Yl{xs ys:List AV}{t:Bool}(h:LesC xs ys)(h0:az xs=0):Le (.ls xs) (.ps ys t):=fun pl M v hv=>.lsp (FY h pl M v hv) h0
theorem Ym{xs ys:List AV}(h:LesC xs ys)(h0:az xs=0):Le (.ls xs) (.ls ys):=fun pl M v hv=>by
 cases hv with
 |lsn=>cases h;exact .lsn
 |lsp hv _=>exact .lsp (FY h pl M v hv) h0
theorem Le.pls{x:AV}{xs ys:List AV}(h:LesC (x::xs) ys):Le (.ps (x::xs) false) (.ls ys):=fun pl M v hv=>by
 cases hv with
 |lsn=>cases h
 |lsp hv _=>exact FY h pl M v hv
mutual
def BF:AV→AV→Bool
 | .ls xs,.nils=>xs.isEmpty
 | .ls xs,.ps ys _=>kr xs ys&&Nat.beq (az xs) 0
 | .ls xs,.ls ys=>kr xs ys&&Nat.beq (az xs) 0
 | .ps (x::xs) false,.ls ys=>kr (x::xs) ys
 | .ps xs false,.ps ys _=>kr xs ys
 | .agg us,.agg vs=>kr us vs&&us.all cL
 |u,v=>AV.same u v
def kr:List AV→List AV→Bool
 |[],[]=>true
 |a::us,b::vs=>BF a b&&kr us vs
 |_,_=>false
end
theorem It.same{u v:AV}(h:AV.same u v=true):Le u v∧It u v:=by grind[AV.same_eq,Le.refl,It.refl]
mutual
theorem wl:∀(u v:AV),BF u v=true→Le u v∧It u v:=fun u v h=>by
 unfold BF at h;split at h
 ·rename_i xs;have e:xs=[]:=by simp_all
  subst e;exact⟨Le.nils,It.one rfl rfl rfl Le.nils⟩
 ·rename_i xs ys t;have h:=jM.1 h;have k:=Yl (t:=t) (jL xs ys h.1).2 (pC h.2);exact⟨k,It.one rfl rfl rfl k⟩
 ·rename_i xs ys;have h:=jM.1 h;have k:=Ym (jL xs ys h.1).2 (pC h.2);exact⟨k,It.one rfl rfl rfl k⟩
 ·rename_i x xs ys;have k:=Le.pls (jL (x::xs) ys h).2;exact⟨k,It.one rfl rfl rfl k⟩
 ·rename_i xs ys t;have k:=FY (t:=t) (jL xs ys h).2;exact⟨k,It.one rfl rfl rfl k⟩
 ·rename_i us vs;have h:=jM.1 h;have k:=jL us vs h.1;exact⟨bQ k.1 h.2,fun _ y hy=>na.1 h.2 y hy,k.1⟩
 ·exact It.same h
theorem jL:∀(us vs:List AV),kr us vs=true→Les us vs∧LesC us vs:=fun us vs h=>by
 unfold kr at h;split at h
 ·exact⟨.nil,.nil⟩
 ·rename_i a us b vs;have h:=jM.1 h;have h1:=wl a b h.1;have h2:=jL us vs h.2;exact⟨.cons h1.1 h2.1,.cons h1.2 h2.2⟩
 ·grind
end
section
variable{P:Program}{G:eC}{f:FuncId}{a b:List AV}{u v:AV}
theorem aC.args(h:aC P G f a v)(hl:Les a b):aC P G f b v:=fun hp pl M w vs hg hr hv=>h hp pl M w vs hg hr (hv.le hl)
theorem aC.lessB(h:aC P G f a v)(hl:BF u v=true):aC P G f a u:=h.less (wl _ _ hl).1
theorem QL(a b:Nat):C4 (.ofNat a) (.ofNat b)=.ofNat (Nat.max a b):=by
 unfold C4;cases h:aF (.ofNat a) (.ofNat b)with
 |true=>
  have h:=ar h;grind
 |false=>
  have h:=aG h;simp_all
theorem pI{xs ys:List AV}{i t:Nat}{r:List (Nat×Nat)}{x y:AV}{e c:Bool}(hx:ju xs i=some x)(hy:ju ys i=some y)(h:JO t x y=some e)(k:yZ xs ys r=some c):yZ xs ys ((i,t)::r)=some (e&&c):=by
 simp only[yZ,hx,hy,Tc,h];cases e with
 |true=>exact k
 |false=>rfl
theorem Dv{xs ys:List AV}{i t:Nat}{r:List (Nat×Nat)}{x y:AV}{e:Bool}(hx:ju xs i=some x)(hy:ju ys i=some y)(h:JO t x y=some e)(k:yZ xs ys r=some true):yZ xs ys ((i,t)::r)=some e:=by
 simp only[yZ,hx,hy,Tc,h];cases e with
 |true=>exact k
 |false=>rfl
theorem E9{d:Option TypeDesc}{n:Nat}{l:List (Nat×Nat)}{xs ys:List AV}{c:Bool}{H:AHeap}(hn:(Nat.beq xs.length n&&Nat.beq ys.length n)=true)(hl:yZ xs ys l=some c):
  bb H (Tl (qX .eql d (some true) (some n) (some l)) (some (.agg xs)) (some (.agg ys)))=some (.val (.bool c) H):=by
 grind[Tl,qX,X1,pV,bb]
theorem E8{d:Option TypeDesc}{n:Nat}{l:List (Nat×Nat)}{xs ys:List AV}{c:Bool}{H:AHeap}(hn:(Nat.beq xs.length n&&Nat.beq ys.length n)=true)(hl:yZ xs ys l=some c):
  bb H (Tl (qX .neq d (some true) (some n) (some l)) (some (.agg xs)) (some (.agg ys)))=some (.val (.bool (!c)) H):=by
 grind[Tl,qX,X1,pV,bb]
def uF:List (FuncId×List AV×AV)→aac
 |[],_,_,_=>none
 |x::r,g,b,h=>match Nat.beq g x.1 with
  |true=>(match kr x.2.1 b with|true=>some (x.2.2,h)|false=>uF r g b h)
  |false=>uF r g b h
theorem Ap:∀{L:List (FuncId×List AV×AV)}{g:FuncId}{h h1:AHeap}{v1:AV},uF L g b h=some (v1,h1)→∃x,x∈L∧g=x.1∧kr x.2.1 b=true∧v1=x.2.2∧h1=h
 |[],_,_,_,_,e=>by grind[uF]
 | x::r,g,h,h1,v1,e=>by
  unfold uF at e;have next:uF r g b h=some (v1,h1)→∃y,y∈x::r∧g=y.1∧kr y.2.1 b=true∧v1=y.2.2∧h1=h:=fun e=>
   let⟨y,k,q⟩:=Ap e
   ⟨y,eW _ k,q⟩
  grind[Nat.eq_of_beq_eq_true]
theorem HZ{C:Cfg}{L:List (FuncId×List AV×AV)}(hC:C.hook=uF L)(hL:∀x,x∈L→aC C.P C.G x.1 x.2.1 x.2.2):Kk C:=fun g b hp v1 h1 e pl M w vs hg hr hv=>by
 rw[hC]at e;obtain⟨x,hx,rfl,hl,rfl,rfl⟩:=Ap e;rcases hL x hx h1 pl M w vs hg hr (hv.le (jL _ _ hl).1)with⟨k1,k2⟩|⟨cv,w',v2,h2,k1,⟨rfl,rfl⟩,k3⟩
 ·refine .inl ⟨k1,fun cs=>?_⟩;obtain⟨en,w',fr,⟨cv,v2,h2,e1,⟨rfl,rfl⟩,k3⟩,r⟩:=k2 cs;grind
 ·exact .inr ⟨cv,w',k1,k3⟩
def YL(v:AV):Option (AV×AHeap)→Bool
 |some (u,_)=>BF v u&&Nat.beq u.top 0
 |none=>false
theorem aC.closed{C:Cfg}{k:Nat}(hG:jW C.G)(ev:cq C.P C.G (fT C k))(ht:az a=0)(h:YL v (fT C k f a AHeap.none)=true):aC C.P C.G f a v:=by
 cases hx:fT C k f a AHeap.none with
 |none=>rw[hx]at h;cases h
 |some r=>
  obtain⟨u,h1⟩:=r;rw[hx]at h;have h:=jM.1 h;exact(lU hG ht (pC h.2) ((aL.of ev hx).mono fun v1 _ e=>e.1)).lessB h.1
end
end Go.Ev
namespace Go.Ev
open Go
theorem aC.ls0{P:Program}{G:eC}{f:FuncId}{r:List AV}{v:AV}(h1:aC P G f (.nils::r) v)(h2:aC P G f (.ps [] false::r) v):aC P G f (.ls []::r) v:=fun h=>Fz (fun _ _ _ hv=>VRels.first hv fun _ hv=>hv.ls0) (h1 h) (h2 h)
theorem RO{p:PId}{u:TUnit}(h:cV p u=true):ee p u∈aI p u:=by
 unfold ee;rw[h];have:=qw.2 (lj h);grind[fR]
theorem TK:∀(u:TUnit),nJ u=(bu u).flatMap nb:=by
 refine TUnit.ind fun u ih=>?_
 rw[NX,dj,Cj];congr 1;have key:∀(l:List TUnit),(∀k,k∈l→k∈u.kids)→kI l=(dr l).flatMap nb:=by
  intro l;induction l with
  |nil=>intro _;rw[DG,gZ];rfl
  |cons k r ihr=>grind[tf,bN]
 simp_all
theorem Po{p:PId}:∀(u:TUnit),cV p u=true→bw (ee p u)=p:=by
 refine TUnit.ind fun u ih h=>?_
 unfold ee;rw[h];simp only[cond_true];cases hh:fO p u with
 |true=>rw[rf hh];exact uL hh
 | false=>
  have key:∀(r:List TUnit),(∀k,k∈r→k∈u.kids)→cn p r≠[]→bw (gD (cn p r) ((cn p r).length -1))=p:=by
   intro r;induction r with
   |nil=>grind[kS]
   |cons k r ihr=>grind[oQ,ee,jJ]
  have k2:=key u.kids fun _ h=>h
  obtain⟨y,t,e⟩:=wq h;rw[gm,hh]at e ⊢;grind[gD]
theorem L3{p:PId}:∀(u:TUnit),(∃x,x∈bu u∧bw x=p)→cV p u=true:=by
 refine TUnit.ind fun u ih ⟨x,hx,hp⟩=>?_
 cases hh:fO p u with
 |true=>grind[Ep]
 | false=>
  rw[dj]at hx;rcases fQ.1 hx with rfl|hx
  ·simp_all[fO,lJ]
  ·have key:∀(l:List TUnit),(∀k,k∈l→k∈u.kids)→x∈dr l→cn p l≠[]:=by
    intro l;induction l with
    |nil=>grind[gZ]
    |cons k r ihr=>grind[bN,cV,oQ,jJ]
   grind[cV,gm]
theorem C2{α β:Type}{f:α→β}:∀{l:List α},(l.map f).Nodup→∀{x y:α},x∈l→y∈l→f x=f y→x=y
 | a::l,h,x,y,hx,hy,e=>by
  rw[dn,List.nodup_cons]at h;rcases fQ.1 hx with h1|h1
  ·grind
  ·rcases fQ.1 hy with h2|h2
   ·simp_all
   ·exact C2 h.2 h1 h2 e
theorem Dd{K V:Type}{kenc:K→AV}{f:V→AV}:∀(l:List (K×V))(i:Nat),(cW kenc f l i).length=l.length
 |[],_=>rfl
 |(k,v)::r,i=>by rw[cW,cR,Dd r,cR]
theorem Nh(m:List (PId×Bool)):CA [] m=m:=rfl
theorem SJ{n:Nat}(h:0<n):af (Int.ofNat n) 0=false:=by grind[rP]
def Dj(p:PId):TUnit→Option TUnit:=fun u=>(bu u).find? (fO p)
theorem Tg{p:PId}:∀(u:TUnit),(cV p u=true→Dj p u=some (ee p u))∧(cV p u=false→Dj p u=none):=by
 refine TUnit.ind fun u ih=>?_
 unfold Dj;rw[dj];cases hh:fO p u with
 |true=>
  rw[List.find?_cons_of_pos (by omega)];refine⟨fun h=>?_,fun h=>by grind[Ep]⟩;unfold ee;rw[h,rf hh];rfl
 | false=>
  rw[List.find?_cons_of_neg (by simp_all)];have key:∀(r:List TUnit),(∀k,k∈r→k∈u.kids)→(cn p r≠[]→(dr r).find? (fO p)=some (gD (cn p r) ((cn p r).length -1)))∧(cn p r=[]→(dr r).find? (fO p)=none):=by
   intro r;induction r with
   |nil=>grind[kS,gZ]
   |cons k r ihr=>
    intro hm;have ik:=ih k (hm k (dI ..));have ir:=ihr fun z hz=>hm z (eW _ hz)
    rw[bN,List.find?_append];cases hk:cV p k with
    |true=>grind[Dj,oQ,lj,ee]
    |false=>grind[Dj,jJ]
  have k2:=key u.kids fun _ h=>h
  refine⟨fun h=>?_,fun h=>?_⟩
  ·obtain⟨y,t,e⟩:=wq h;unfold ee;rw[h,gm,hh];rw[gm,hh]at e;grind[gD]
  ·have e:=At h;grind[gm]
theorem gE(p:PId)(u:TUnit):fO p u=true↔bw u=p:=⟨uL,fun h=>by simp_all[fO,lJ]⟩
theorem JU{y x:TUnit}:∀(u:TUnit),y∈bu u→x∈bu y→x∈bu u:=by
 refine TUnit.ind fun u ih h hx=>?_
 rw[dj]at h ⊢;rcases fQ.1 h with rfl|h
 ·grind[dj]
 ·refine eW _ ?_;have key:∀(l:List TUnit),(∀k,k∈l→k∈u.kids)→y∈dr l→x∈dr l:=by
   intro l;induction l with
   |nil=>grind[gZ]
   |cons k r ihr=>grind[bN]
  simp_all
theorem jY{y x u:TUnit}(h:y∈bu u)(hx:x∈bu y):x∈bu u:=JU u h hx
theorem Qx{x:TUnit}:∀(u:TUnit),x∈bu u→nU x≤nU u:=by
 refine TUnit.ind fun u ih h=>?_
 rw[dj]at h;rcases fQ.1 h with rfl|h
 ·omega
 ·have key:∀(l:List TUnit),(∀k,k∈l→k∈u.kids)→x∈dr l→nU x<nU u:=by
   intro l;induction l with
   |nil=>grind[gZ]
   |cons k r ihr=>grind[bN,Nat.lt_of_le_of_lt,io]
  grind
theorem dN{x u:TUnit}(h:x∈bu u):nU x≤nU u:=Qx u h
section
variable{p:PId}{u w:TUnit}{r:List TUnit}
end
end Go.Ev
namespace Go.Ev
open Go
def kg(a b:PStep):Bool:=af a.kind b.kind&&eV a.label b.label
mutual
def EE:PItem→PItem→Bool
 |⟨k,a,t,w,n,u,o,ne,l,f,s,ac,im,d,e,bs⟩,v=>
  (af k v.kind&&(af w v.where_&&(af n v.nth_&&(af ac v.act&&(af im v.item&&af d v.day)))))
  &&((eV l v.label&&(eV f v.for_&&(eV e v.event&&(af s.kind v.start.kind&&(af s.day v.start.day&&eV s.event v.start.event)))))
  &&((cN kg a v.at_&&(cN kg t v.to&&(cN eV o v.old&&cN eV ne v.new)))
  &&(Hr u v.unit&&Dy bs v.by_)))
def Dy:List PItem→List PItem→Bool
 |[],[]=>true
 |k::r,[]=>false
 |k::r,x::s=>EE k x&&Dy r s
 |[],x::s=>false
end
theorem SX:∀(l m:List PItem),Dy l m=cN EE l m:=by
 intro l;induction l with
 |nil=>intro m;cases m<;>(rw[Dy];rfl)
 |cons x l ih=>intro m;cases m with|nil=>rw[Dy];rfl|cons y m=>rw[Dy,ih];rfl
theorem Vy(u v:PItem):EE u v=((af u.kind v.kind&&(af u.where_ v.where_&&(af u.nth_ v.nth_&&(af u.act v.act&&(af u.item v.item&&af u.day v.day)))))
  &&((eV u.label v.label&&(eV u.for_ v.for_&&(eV u.event v.event&&(af u.start.kind v.start.kind&&(af u.start.day v.start.day&&eV u.start.event v.start.event)))))
  &&((cN kg u.at_ v.at_&&(cN kg u.to v.to&&(cN eV u.old v.old&&cN eV u.new v.new)))
  &&(Hr u.unit v.unit&&cN EE u.by_ v.by_)))):=by
 cases u
 rw[EE,SX];rfl
noncomputable def Ez(s:aR):Bool:=ak (aF (.ofNat s.length) 1)&&(ak (aF 16 (.ofNat s.length))&&(ak (aF (.ofNat (gD s 0).toNat) 97)&&(ak (aF 122 (.ofNat (gD s 0).toNat))&&eV (Lib.trimS s [97,98,99,100,101,102,103,104,105,106,107,108,109,110,111,112,113,114,115,116,117,118,119,120,121,122,48,49,50,51,52,53,54,55,56,57,45]) [])))
def sZ(n:Bool)(s:PStart):Bool:=bif af s.kind 0||af s.kind 2 then af s.day 0&&eV s.event []else bif af s.kind 1 then(ak (aF s.day 0)&&ak (aF 1048576 s.day))&&eV s.event []else bif af s.kind 3 then af s.day 0&&n else false
end Go.Ev
namespace Go.Ev
open Go
def bF(s:PStep)(u:TUnit):Bool:=af u.kind s.kind&&eV u.label s.label
def gp:List PStep→List TUnit→List TUnit
 |[],l=>l
 |s::r,l=>gp r (l.flatMap fun x=>x.kids.filter (bF s))
def dT(u:TUnit)(p:List PStep):List TUnit:=bif kL p then(match p with
 |[]=>[u]
 |s::r=>gp r (bif nK s then[u]else(bu u).filter (bF s)))else[]
noncomputable def aH(u:TUnit)(p:List PStep):PId×Int:=match dT u p with
 |[]=>(bT,7)
 |[x]=>(bw x,0)
 |_=>(bT,8)
def iq(p:PId)(u:TUnit):Bool:=ak (aF (.ofNat (aI p u).length) 2)
noncomputable def IH(p:PId)(u:TUnit):TUnit:=gD (aI p u) ((aI p u).length -2)
noncomputable def sT(p:PId)(u:TUnit):PId:=bif iq p u then bw (IH p u)else bT
noncomputable def qu(p:PId)(u:TUnit):Int:=bif iq p u then dA (cV p) (IH p u).kids 0 else -1
def qW(p:PId)(u:TUnit):List PId:=(((aI p u).take ((aI p u).length -1)).map bw).reverse
structure PSpot where
 id:PId
 at_:Int
 deriving Inhabited
noncomputable def fk(s:PSpot):AV:=.agg [.int .i64 s.id.a,.int .i64 s.id.i,.int .i64 s.id.n,.int .i64 s.at_]
def dF:PSpot:=⟨bT,0⟩
noncomputable def nF(u:TUnit)(p:PId)(n:Int):PSpot×Int:=bif iq p u then(⟨sT p u,qu p u+n⟩,0)else(dF,9)
noncomputable def dw(w:Int)(u:TUnit)(p:PId):PSpot×Int:=bif af w 0 then(⟨p,0⟩,0)else bif af w 1 then(⟨p,.ofNat (ee p u).kids.length⟩,0)else bif af w 2 then nF u p 1 else nF u p 0
def iH(n:Int):Bool:=ak (aF n 0)&&ak (aF 3 n)
def cD(act item:Int):List aR→Nat→List PWord
 |[],_=>[]
 |s::r,n=>⟨s,act,item,.ofNat n⟩::cD act item r (n+1)
def b8(l:List PWord):List aR:=l.map fun w=>w.text
theorem gX(a i:Int):∀(l:List aR)(n:Nat),(cD a i l n).length=l.length
 |[],_=>rfl
 |s::r,n=>by rw[cD,cR,gX a i r,cR]
mutual
def cS(a i:Int):TUnit→Nat→Nat→TUnit
 |⟨_,_,_,k,l,h,ws,ks⟩,n,w=>⟨a,i,.ofNat (n+1),k,l,cD a i (b8 h) w,cD a i (b8 ws) (w+h.length),fK a i ks (n+1) (w+h.length+ws.length)⟩
def fK(a i:Int):List TUnit→Nat→Nat→List TUnit
 |[],_,_=>[]
 |k::r,n,w=>cS a i k n w::fK a i r (n+nU k) (w+(nJ k).length)
end
theorem Ct(a i:Int)(u:TUnit)(n w:Nat):cS a i u n w=⟨a,i,.ofNat (n+1),u.kind,u.label,cD a i (b8 u.head) w,cD a i (b8 u.words) (w+u.head.length),fK a i u.kids (n+1) (w+u.head.length+u.words.length)⟩:=by cases u;rw[cS];rfl
theorem FM(a i:Int)(n w:Nat):fK a i [] n w=[]:=by rw[fK]
theorem DO(a i:Int)(k:TUnit)(r:List TUnit)(n w:Nat):fK a i (k::r) n w=cS a i k n w::fK a i r (n+nU k) (w+(nJ k).length):=by rw[fK]
def v8(part:List aR):Nat→List aR→Nat→List Nat
 |0,_,_=>[]
 |f+1,l,i=>bif Nat.ble (i+part.length) l.length then(bif cN eV ((l.drop i).take part.length) part then i::v8 part f l (i+part.length)else v8 part f l (i+1))else[]
def uc(l part:List aR):List Nat:=bif part.isEmpty then[]else v8 part (l.length+1) l 0
end Go.Ev
namespace Go.Ev
open Go
def px(w:PWord):Bool:=ak (af w.act 0&&(af w.item 0&&af w.at_ 0))
def DC(x:TUnit):Bool:=fO bT x&&(ak (x.head.any px)&&ak (x.words.any px))
def Ik(u:TUnit):Bool:=kT u&&wg DC u
def g9(w:PWord):PWord:=⟨w.text,0,0,0⟩
mutual
def cH:TUnit→TUnit
 |⟨_,_,_,k,l,h,w,ks⟩=>⟨0,0,0,k,l,h.map g9,w.map g9,tI ks⟩
def tI:List TUnit→List TUnit
 |[]=>[]
 |k::r=>cH k::tI r
end
theorem zx:∀(l:List TUnit),tI l=l.map cH
 |[]=>by rw[tI];rfl
 |k::r=>by rw[tI,zx r];rfl
theorem mf(u:TUnit):cH u=⟨0,0,0,u.kind,u.label,u.head.map g9,u.words.map g9,u.kids.map cH⟩:=by cases u;rw[cH,zx];rfl
theorem Rh{p:PId}{u:TUnit}(h:cV p u=false):iq p u=false:=by unfold iq;rw[At h];rfl
theorem XQ{p:PId}{u:TUnit}(h:iq p u=false):sT p u=bT:=by unfold sT;simp_all
theorem Qb{p:PId}{u:TUnit}(h:iq p u=false):qu p u= -1:=by unfold qu;simp_all
theorem Jq{p:PId}{u:TUnit}(h:iq p u=true):sT p u=bw (IH p u):=by unfold sT;simp_all
theorem Jz{p:PId}{u:TUnit}(h:iq p u=true):qu p u=dA (cV p) (IH p u).kids 0:=by unfold qu;simp_all
def oD(p:PId)(u:TUnit)(k:Nat):List PId:=((((aI p u).take ((aI p u).length -1)).drop k).map bw).reverse
theorem E7(p:PId)(u:TUnit):oD p u 0=qW p u:=rfl
theorem DF(p:PId)(u:TUnit):oD p u ((aI p u).length -1)=[]:=by
 unfold oD;simp_all
theorem Bt(p:PId)(u:TUnit){k:Nat}(h:k+1<(aI p u).length):oD p u k=oD p u (k+1)++[bw (gD (aI p u) k)]:=by
 unfold oD;have h1:k<((aI p u).take ((aI p u).length -1)).length:=by grind
 rw[Pj h1,dn,List.reverse_cons];grind[gD]
theorem DE(p:PId)(u:TUnit)(k:Nat):(oD p u k).length≤(aI p u).length:=by grind[oD]
def lg(s:PStep)(u:TUnit):List TUnit:=(bu u).filter (bF s)
def dq(s:PStep)(l:List TUnit):List TUnit:=(dr l).filter (bF s)
theorem zG(s:PStep)(u:TUnit):lg s u=(bif bF s u then[u]else[])++dq s u.kids:=by
 unfold lg dq;rw[dj,qU];grind
theorem mP(s:PStep):dq s []=[]:=by unfold dq;rw[gZ];rfl
theorem gP(s:PStep)(k:TUnit)(r:List TUnit):dq s (k::r)=lg s k++dq s r:=by grind[lg,dq,bN]
theorem mn(s:PStep)(u:TUnit):(lg s u).length≤nU u:=by grind[lg,Gx]
theorem s8:∀(l m:List TUnit),eJ (l++m)=eJ l+eJ m
 |[],m=>by rw[mw,sj,ei]
 |x::r,m=>by rw[yT,bi,bi,s8 r m,Nat.add_assoc]
theorem AK(q:TUnit→Bool):∀(l:List TUnit),eJ (l.filter q)≤eJ l
 |[]=>by simp_all
 |x::r=>by
  rw[qU,bi];have:=AK q r;cases q x with
  |true=>rw[if_pos rfl,bi];omega
  |false=>grind
theorem AJ(q:TUnit→Bool):∀(l:List TUnit),eJ (l.flatMap fun x=>x.kids.filter q)≤eJ l
 |[]=>by simp_all
 |x::r=>by
  rw[Cj,s8,bi];have:=AJ q r;grind[AK,jy]
theorem Lo{n:Nat}:∀(l:List TUnit),(∀x,x∈l→nU x≤n)→eJ l≤n*l.length
 |[],_=>by simp_all[mw]
 |x::r,h=>by
  rw[bi,cR,Nat.mul_add,Nat.mul_one];have:=h x (dI ..);have:=Lo r fun y hy=>h y (eW _ hy)
  omega
theorem Gn(s:PStep)(u:TUnit)(hp:∀x,x∈bu u→nU x≤nU u):eJ (lg s u)≤nU u*nU u:=by
 have h1:=Lo (n:=nU u) (lg s u) fun x hx=>hp x (Cx.1 hx).1
 exact bR h1 (Nat.mul_le_mul_left _ (mn s u))
theorem I0(l:List TUnit):gp [] l=l:=rfl
theorem JC{u:TUnit}{p:List PStep}(h:kL p=false):dT u p=[]:=by unfold dT;simp_all
theorem Hj{u:TUnit}(h:kL []=true):dT u []=[u]:=by unfold dT;simp_all
theorem Hk{u:TUnit}{s:PStep}{r:List PStep}(h:kL (s::r)=true)(hb:nK s=true):dT u (s::r)=gp r [u]:=by
 unfold dT;simp_all
theorem xg{u:TUnit}{s:PStep}{r:List PStep}(h:kL (s::r)=true)(hb:nK s=false):dT u (s::r)=gp r (lg s u):=by
 unfold dT;rw[h];show gp r (bif nK s then[u]else(bu u).filter (bF s))=_
 rw[hb];rfl
def cp(s:PStep)(l:List TUnit):List TUnit:=l.flatMap fun x=>x.kids.filter (bF s)
section
variable{s:PStep}{l m r r1 X:List TUnit}{w w1:TUnit}{n N:Nat}{rs0:List PStep}{R at0:List TUnit}
theorem Ji:cp s []=[]:=rfl
theorem xa:cp s (w::r)=w.kids.filter (bF s)++cp s r:=by grind[cp]
theorem I1(rs:List PStep):gp (s::rs) l=gp rs (cp s l):=rfl
theorem Gp:eJ (cp s l)≤eJ l:=AJ _ l
theorem fA(h:R=gp (s::rs0) l∧eJ l≤N)(e:cp s []=cp s l):R=gp rs0 []∧eJ []≤N:=⟨by rw[h.1,I1,←e];rfl,by simp_all[mw]⟩
theorem fB(h:R=gp (s::rs0) l∧eJ l≤N)(e:m++cp s []=cp s l):R=gp rs0 m∧eJ m≤N:=by grind[Ji,I1,Gp]
theorem gA(h:cp s (w1::r1)=X):w1.kids.filter (bF s)++cp s r1=X:=xa.symm.trans h
theorem gB(h:n=m.length∧m++cp s (w1::r1)=X∧m.length+eJ (w1::r1)<N):n=m.length∧m++(w1.kids.filter (bF s)++cp s r1)=X∧m.length+(eJ w1.kids+eJ r1)<N:=⟨h.1,xa (s:=s)▸h.2.1,by grind[bi,jy]⟩
theorem hA0(h:(w::r).filter (bF s)++cp s r1=X)(q:bF s w=false):r.filter (bF s)++cp s r1=X:=by simp_all
theorem hB0(h:n=m.length∧m++((w::r).filter (bF s)++cp s r1)=X∧m.length+(eJ (w::r)+eJ r1)<N)(q:bF s w=false):n=m.length∧m++(r.filter (bF s)++cp s r1)=X∧m.length+(eJ r+eJ r1)<N:=⟨h.1,by simp_all,by grind[bi]⟩
theorem hB1(h:n=m.length∧m++((w::r).filter (bF s)++cp s r1)=X∧m.length+(eJ (w::r)+eJ r1)<N)(q:bF s w=true):n+1=(m++[w]).length∧(m++[w])++(r.filter (bF s)++cp s r1)=X∧(m++[w]).length+(eJ r+eJ r1)<N:=⟨by simp_all,by simp_all,by grind[Jb,bi]⟩
end
section
variable{p:PId}{u:TUnit}{i:Int}{l:List PId}
theorem O1(hn:i=Int.ofNat (aI p u).length -2)(h0:aF i 0=false):[bw (gD (aI p u) i.toNat)]=oD p u (i-1+1).toNat:=by
 have h0:=aG h0;simp only[aP]at hn;have e:(i-1+1).toNat=i.toNat:=by omega
 rw[e,Bt p u (k:=i.toNat) (by omega),show i.toNat+1=(aI p u).length -1 by omega,DF,sj]
theorem Ic(h:l=oD p u (i+1).toNat)(hi:i+2≤(aI p u).length)(h0:aF i 0=false):l++[bw (gD (aI p u) i.toNat)]=oD p u (i-1+1).toNat:=by
 have h0:=aG h0;grind[Bt]
theorem TQ(h:l=oD p u (i+1).toNat)(hi: -1≤i)(h0:aF i 0=true):l=qW p u:=by
 have h0:=ar h0;rw[h,show(i+1).toNat=0 by omega,E7]
theorem S9(hn:i=Int.ofNat (aI p u).length -2)(h0:aF i 0=true):qW p u=[]:=by
 have h0:=ar h0;simp only[aP]at hn;rw[←E7];have:(aI p u).length -1=0:=by omega
 grind[DF]
end
theorem La{s:PStep}{l m:List TUnit}(h:dq s l=m)(hm:m≠[]):l≠[]:=by grind[mP]
theorem WI(l:List TUnit){z:AV}(hz:z.top=0):az (l.map aY++[z])=0:=kK.2 fun x hx=>by grind[iw]
theorem pZ{l x r:List TUnit}{w:TUnit}{j:Nat}(h1:l.drop j=x)(h2:x=w::r):nU w+eJ r≤eJ l:=by
 have e:l=l.take j++(w::r):=by grind[List.take_append_drop]
 grind[s8,bi]
end Go.Ev
