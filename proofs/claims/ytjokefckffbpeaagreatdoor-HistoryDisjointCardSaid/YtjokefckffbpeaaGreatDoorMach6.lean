/- An abstract machine for runs of the program, proved sound against the model: part 6. No conditions. -/
import Derived.Test.YtjokefckffbpeaaGreatDoorMach5
import Derived.Shelf.SortM.Plain
import Derived.Shelf.SortM.SortNone
import Derived.Shelf.SlSortCmp.NoneTotal
import Derived.Shelf.SlicesG.CompactI
import Derived.Lib.QuietBelow
import GoSem.ClaimJoined
import Derived.Calls
import Derived.RunT
import Derived.Below
import Derived.Shelf.Strings.FuncGrows
import Derived.Laws.RangeAny
import Derived.Lib.Join
import Derived.Lib.Repeat
import Derived.Lib.SlTrimSet
namespace Go.Ev
open Go Go.Sort Go.Proofs
section
variable{P:Program}{G:eA}{pl:Pl}{M:dr}{h:AHeap}{w w':World}
theorem tW(hr:cM pl M h w){id:Nat}{p:Place}{sz:Nat}{op:Bool}{ep:Nat}{xs xs':List AV}{c c':Array Value}{t:TypeId}(hp:pl id=some p)(hg:h.get id=some (.row sz op ep xs))
  (hb:w.heap[p.blk]?=some (.cells c t (0,0)))(hw:w'.heap[p.blk]?=some (.cells c' t (0,0)))(hcs:c'.size=c.size)(hlen:xs'.length=xs.length)(hel:∀x,x∈xs'→x.cells.length=sz∧Sc x)
  (hcell:∀i x j y,xs'[i]?=some x→x.cells[j]?=some y→VRel pl M y (c'.getD (i*sz+j) undef))(hs:WSame w w')(hsz:w.heap.size≤w'.heap.size)(hk:∀b,b<w.heap.size→b≠p.blk→w'.heap[b]?=w.heap[b]?):
  cM pl M (h.put id (.row sz op ep xs')) w'∧dZ h pl M w (h.put id (.row sz op ep xs')) pl M w':=by
 have ho:=hr.obj id p _ hp hg;rw[hb]at ho;simp only[bm]at ho;obtain⟨h1,h2,h3,h4,h5,h6,h7,h8⟩:=ho;have e:=yn (pl:=pl) hp;have:=cM.change (p':=p) (o':=.row sz op ep xs') hr hp hg (.inl rfl) hs hsz hk (.inl rfl) (wx.1 hw).1 (by
  rw[e,hw];simp only[bm];refine⟨h1,h2,by omega,by omega,trivial,h6,fun e=>by simp_all,⟨?_,hel,fun i x j y q1 q2=>?_⟩⟩
  ·grind[cases InMem]
  simp_all)
 simp_all
variable{β:Type}[Inhabited β]
theorem qt{enc:β→Value}{blk off n:Nat}{d:Array β}{os:Array Obj}{c:Array Value}{t:TypeId}{fr:Nat×Nat}(hb:w.heap[blk]?=some (.cells c t fr)):
  (grow (putRow enc (Sort.ahead w n) blk off d) os).heap[blk]?=some (.cells (putCells enc off d c) t fr):=by
 grind[grow,putRow,mapBlock,Sort.ahead,onCells]
theorem kf{enc:β→Value}{blk off n:Nat}{d:Array β}{os:Array Obj}{b:Nat}(hb:b<w.heap.size)(hne:b≠blk):
  (grow (putRow enc (Sort.ahead w n) blk off d) os).heap[b]?=w.heap[b]?:=by
 simp only[grow,putRow,mapBlock,Sort.ahead];grind
theorem n6{enc:β→Value}{blk off n:Nat}{d:Array β}{os:Array Obj}:WSame w (grow (putRow enc (Sort.ahead w n) blk off d) os):=⟨rfl,rfl,rfl,Nat.le_add_right _ _⟩
theorem Bn{enc:β→Value}{blk off n:Nat}{d:Array β}{os:Array Obj}:w.heap.size≤(grow (putRow enc (Sort.ahead w n) blk off d) os).heap.size:=by simp_all
theorem nS{enc:β→Value}{d:Array β}{c:Array Value}{k:Nat}(hk:k<d.size)(hc:k<c.size):(putCells enc 0 d c).getD k undef=enc d[k]!:=by simp_all[putCells]
theorem qz(hr:cM pl M h w){id ep len sz:Nat}{op:Bool}{cap:Option Nat}{xs:List AV}{x:Value}(hv:VRel pl M (.slice id ep 0 len cap) x)(hg:h.get id=some (.row sz op ep xs))(hl:0<len):
  ∃p c t cap',pl id=some p∧w.heap[p.blk]?=some (.cells c t (0,0))∧x=.slice (some ⟨p.blk,0,none⟩) len cap'∧InMem pl M c 0 sz xs∧0<sz∧p.blk<w.heap.size:=by
 cases hv with
 | slice hp he hle hk ha=>
  rename_i cap' a p;have ho:=hr.obj id p _ hp hg;cases hb:w.heap[p.blk]? with
  |none=>grind[bm]
  |some ob=>
   rw[hb]at ho;cases ob<;>simp only[bm]at ho
   rename_i c t fr;obtain⟨h1,h2,h3,h4,h5,h6,h7,h8⟩:=ho;subst h5;obtain⟨k1,_⟩:=ha (by omega);have k2:a=⟨p.blk,0,none⟩:=by grind
   exact⟨p,c,t,_,hp,hb,by rw[k2],h8,h6,(wx.1 hb).1⟩
def c8(zs:List Int):List Int:=zs.mergeSort fun x y=>decide (x≤y)
theorem iF(zs:List Int):(c8 zs).Perm zs:=List.mergeSort_perm ..
theorem th(zs:List Int):(c8 zs).Pairwise (fun a b=>a≤b):=by
 have:=List.pairwise_mergeSort (le:=fun x y:Int=>decide (x≤y)) (by grind) (by grind) zs;exact this.imp (by simp)
theorem CB{c:Array Value}{sz:Nat}{xs:List AV}(hm:InMem pl M c 0 sz xs){i:Nat}{x:AV}(hx:xs[i]?=some x){j:Nat}(hj:j<sz):i*sz+j<c.size∧∃y,x.cells[j]?=some y∧VRel pl M y (c.getD (i*sz+j) undef):=by
 have h1:=hm.fit;have hi:=(gi.1 hx).1;have h2:=(hm.elem x (bg hx)).1;have h3:(i+1)*sz≤xs.length*sz:=ei _ hi;rw[jL]at h3;refine⟨by omega,x.cells[j],by simp_all,?_⟩;have:=hm.cell i x j _ hx (lx (by omega:j<x.cells.length));simp_all
theorem r9{f:FuncId}(hE:∀vs w,(callFunc f vs).run P w=.ok (.enter f vs) w)
  (hC:∀(blk off cap:Nat)(zs:List Int)(w:World),Holds (Value.int .i64) w blk off zs.toArray→blk<w.heap.size→zs.length<4611686018427387904→
   Calls P f #[.slice (some ⟨blk,off,none⟩) zs.length cap] w fun e w'=>e=.returned (.tuple #[])∧∃n os,w'=grow (putRow (Value.int .i64) (Sort.ahead w n) blk off (zs.mergeSort fun x y=>decide (x≤y)).toArray) os)
  {id ep:Nat}{op:Bool}{cap:Option Nat}(zs:List Int)(hg:h.get id=some (.row 1 op ep (zs.map ak)))(hz:0<zs.length)(hb:zs.length<4611686018427387904):
  aH P G f [.slice id ep 0 zs.length cap] h (fun v h'=>v=.tuple []∧h'=h.put id (.row 1 op ep ((c8 zs).map ak))):=by
 intro pl M w vs hG hr hv;obtain⟨a,rfl,hv1⟩:=R7 hv;obtain⟨p,c,t,cap',hp,hbl,rfl,hm,_,hlt⟩:=qz hr hv1 hg hz;have hcell:∀j z,zs[j]?=some z→j<c.size∧c.getD j undef=.int .i64 z:=by
  intro j z hj;have hx:(zs.map ak)[j]?=some (ak z):=by simp_all
  obtain⟨q1,y,q2,q3⟩:=CB hm hx (j:=0) (by omega);rw[Nat.mul_one,pB]at q1 q3;simp[ak,AV.cells]at q2;subst q2;refine⟨q1,?_⟩;cases hq:c.getD j undef<;>rw[hq]at q3<;>cases q3
  rfl
 refine .inl ⟨hE _ _,Calls.mono (hC p.blk 0 cap' zs w (fun j hj=>?_) hlt hb) fun e w' ⟨he,n,os,hw⟩=>?_⟩
 ·have hj':j<zs.length:=by omega
  obtain⟨q1,q2⟩:=hcell j zs[j] (lx hj');rw[fw];refine⟨?_,?_⟩
  ·simp only[World.cell?,hbl];simp only[Option.isSome_none,gy,if_false];rw[EL q1];simp_all
  grind[World.frozen?]
 ·refine⟨.tuple #[],.tuple [],_,he,⟨rfl,rfl⟩,pl,M,rZ,?_⟩;have hlen:(c8 zs).length=zs.length:=(iF zs).length_eq;have hw1:w'.heap[p.blk]?=some (.cells (putCells (Value.int .i64) 0 (c8 zs).toArray c) t (0,0)):=by rw[hw];exact qt hbl
  obtain⟨r1,r2⟩:=tW (w':=w') (xs':=(c8 zs).map ak) hr hp hg hbl hw1 (by simp[putCells]) (by simp_all) (fun x hx=>by
    obtain⟨z,_,rfl⟩:=j9.1 hx;exact⟨rfl,fun y hy=>by simp[ak,AV.cells]at hy;subst hy;rfl⟩) (fun i x j y q1 q2=>by
    rw[qW]at q1;obtain⟨z,e1,rfl⟩:=EI.1 q1;have hi:=(gi.1 e1).1;cases j with
    |succ j=>grind[ak,AV.cells]
    |zero=>
     simp[ak,AV.cells]at q2;subst q2;rw[Nat.mul_one,pB,nS (by omega) (hcell i zs[i] (lx (by omega))).1];have:(c8 zs).toArray[i]! =z:=by simp_all
     rw[this];exact .int _ _) (by grind[n6]) (by simp_all) (fun b hb hne=>by grind[kf])
  exact⟨r1,r2,ao _⟩
def bZ(zs:List Int):List Int:=Lib.compact zs
theorem xk(zs:List Int):(bZ zs).length≤zs.length:=by grind[bZ,Lib.compact,Lib.compactUpTo]
theorem oB{f:FuncId}(hE:∀vs w,(callFunc f vs).run P w=.ok (.enter f vs) w)
  (hC:∀(blk off cap:Nat)(zs:List Int)(w:World),Holds (Value.int .i64) w blk off zs.toArray→zs.length≤9223372036854775807→zs.length≤cap→
   Calls P f #[.slice (some ⟨blk,off,none⟩) zs.length cap] w fun e w'=>e=.returned (.slice (some ⟨blk,off,none⟩) (Lib.compact zs).length cap)∧∃q,w'=putRow (Value.int .i64) (Sort.ahead w q) blk off (Lib.compact zs++List.replicate (zs.length-(Lib.compact zs).length) 0).toArray)
  {id ep:Nat}{op:Bool}(zs:List Int)(hg:h.get id=some (.row 1 op ep (zs.map ak)))(hz:0<zs.length)(hb:zs.length<4611686018427387904):
  aH P G f [.slice id ep 0 zs.length none] h (fun v h'=>v=.slice id ep 0 (bZ zs).length none∧h'=h.put id (.row 1 op ep ((bZ zs++List.replicate (zs.length-(bZ zs).length) 0).map ak))):=by
 intro pl M w vs hG hr hv;obtain⟨a,rfl,hv1⟩:=R7 hv;obtain⟨p,c,t,cap',hp,hbl,rfl,hm,_,hlt⟩:=qz hr hv1 hg hz;have hcell:∀j z,zs[j]?=some z→j<c.size∧c.getD j undef=.int .i64 z:=by
  intro j z hj;have hx:(zs.map ak)[j]?=some (ak z):=by simp_all
  obtain⟨q1,y,q2,q3⟩:=CB hm hx (j:=0) (by omega);rw[Nat.mul_one,pB]at q1 q3;simp[ak,AV.cells]at q2;subst q2;refine⟨q1,?_⟩;cases hq:c.getD j undef<;>rw[hq]at q3<;>cases q3
  rfl
 have hle:=xk zs;have hcap:zs.length≤cap':=by grind[cases VRel]
 generalize hnew:bZ zs++List.replicate (zs.length-(bZ zs).length) 0=ns;have hnl:ns.length=zs.length:=by grind
 refine .inl ⟨hE _ _,Calls.mono (hC p.blk 0 cap' zs w (fun j hj=>?_) (by omega) hcap) fun e w' ⟨he,n,hw⟩=>?_⟩
 ·have hj':j<zs.length:=by omega
  obtain⟨q1,q2⟩:=hcell j zs[j] (lx hj');rw[fw];refine⟨?_,?_⟩
  ·simp only[World.cell?,hbl];simp only[Option.isSome_none,gy,if_false];rw[EL q1];simp_all
  grind[World.frozen?]
 ·have hw2:w'=grow (putRow (Value.int .i64) (Sort.ahead w n) p.blk 0 ns.toArray) #[]:=by rw[hw,grow_empty];congr 2
  have hrel:VRel pl M (.slice id ep 0 (bZ zs).length none) (.slice (some ⟨p.blk,0,none⟩) (bZ zs).length cap'):=by
   cases hv1 with
   |slice hp he hl hk ha=>
    refine .slice hp he (by omega) hk fun e=>?_
    grind
  refine⟨_,_,_,he,⟨rfl,rfl⟩,pl,M,hrel,?_⟩;have hw1:w'.heap[p.blk]?=some (.cells (putCells (Value.int .i64) 0 ns.toArray c) t (0,0)):=by grind[qt]
  obtain⟨r1,r2⟩:=tW (w':=w') (xs':=ns.map ak) hr hp hg hbl hw1 (by simp[putCells]) (by simp_all) (fun x hx=>by
    obtain⟨z,_,rfl⟩:=j9.1 hx;exact⟨rfl,fun y hy=>by simp[ak,AV.cells]at hy;subst hy;rfl⟩) (fun i x j y q1 q2=>by
    rw[qW]at q1;obtain⟨z,e1,rfl⟩:=EI.1 q1;have hi:=(gi.1 e1).1;cases j with
    |succ j=>grind[ak,AV.cells]
    |zero=>
     simp[ak,AV.cells]at q2;subst q2;rw[Nat.mul_one,pB,nS (by omega) (hcell i zs[i] (lx (by omega))).1];have:ns.toArray[i]! =z:=by simp_all
     rw[this];exact .int _ _) (by grind[n6]) (by simp_all) (fun b hb hne=>by grind[kf])
  exact⟨r1,r2,ao _⟩
theorem Da{f:FuncId}(hE:∀vs w,(callFunc f vs).run P w=.ok (.enter f vs) w)
  (hC:∀(p:Option Addr)(cap:Nat)(w:World),Calls P f #[.slice p 0 cap] w fun e w'=>e=.returned (.tuple #[])∧w'=w):aR P G f [.nils] (.tuple []):=by
 intro h pl M w vs hG hr hv;obtain⟨a,rfl,hv1⟩:=R7 hv;cases hv1
 exact .inl ⟨hE _ _,Calls.mono (hC none 0 w) fun e w' ⟨he,hw⟩=>⟨.tuple #[],.tuple [],h,he,⟨rfl,rfl⟩,pl,M,rZ,by simp_all[StepF.refl]⟩⟩
theorem vv{f:FuncId}{g:Fn}(hE:∀vs w,(callFunc f vs).run P w=.ok (.enter f vs) w)
  (hC:∀(p:Option Addr)(cap:Nat)(fv:Value)(w:World),Calls P f #[.slice p 0 cap,fv] w fun e w'=>e=.returned (.tuple #[])∧w'=w):aR P G f [.nils,.func g [] []] (.tuple []):=by
 intro h pl M w vs hG hr hv;obtain⟨a,b,rfl,hv1,hv2⟩:=A6 hv;cases hv1
 exact .inl ⟨hE _ _,Calls.mono (hC none 0 b w) fun e w' ⟨he,hw⟩=>⟨.tuple #[],.tuple [],h,he,⟨rfl,rfl⟩,pl,M,rZ,by simp_all[StepF.refl]⟩⟩
def DF{α:Type}(cmp:α→α→Int)(a b:α):Bool:=decide (cmp a b<0)
theorem Bd{f g:FuncId}{sz:Nat}(hGT:iT G)(hE:∀vs w,(callFunc f vs).run P w=.ok (.enter f vs) w)(hg2:∀args w,(callFunc g args).run P w=.ok (.enter g args) w)
  (hC:∀(m:Nat)(enc:Fin (m+1)→List Value)(cf:Fin (m+1)→Fin (m+1)→Int)(blk off cap:Nat)(d:Array (Fin (m+1)))(w:World),(∀x,(enc x).length=sz)→(∀x,∀v∈enc x,v.oneCell'=true)→SWO (ltOf cf)→
   CmpLays P g #[] enc sz cf blk off d.size w→HoldsK enc sz w blk off d→blk<w.heap.size→d.size<4611686018427387904→
   Calls P f #[.slice (some ⟨blk,off,none⟩) d.size cap,.func (.func g) #[] #[]] w fun e w'=>e=.returned (.tuple #[])∧∃d' n os,PermIn 0 d.size d d'∧SortedIn (ltOf cf) 0 d.size d'∧w'=sortWorldK enc sz w blk off n d' os)
  {α:Type}[Inhabited α](enc:α→AV)(cmp:α→α→Int)(hO:SWO (DF cmp))(hag:∀a,∃cs,enc a=.agg cs)(htop:∀a,(enc a).top=0)
  (l:List α)(hcmp:∀a,a∈l→∀b,b∈l→aR P G g [enc a,enc b] (.int .i64 (cmp a b)))
  {oid ep:Nat}{op:Bool}{cap:Option Nat}(hg:h.get oid=some (.row sz op ep (l.map enc)))(hz:0<l.length)(hb:l.length<4611686018427387904):
  aH P G f [.slice oid ep 0 l.length cap,.func (.func g) [] []] h (fun v h'=>∃l':List α,(l'.Perm l∧l'.Pairwise fun a b=>DF cmp b a=false)∧v=.tuple []∧h'=h.put oid (.row sz op ep (l'.map enc))):=by
 intro pl M w vs hG hr hv;obtain⟨a,fv,rfl,hv1,hv2⟩:=A6 hv;have e2:=zX hv2;subst e2;obtain⟨p,c,t,cap',hp,hbl,rfl,hm,hsz0,hlt⟩:=qz hr hv1 hg hz;obtain⟨m,hm1⟩:∃m,l.length=m+1:=⟨l.length-1,by omega⟩
 have hfit:=hm.fit;rw[cQ,fw,hm1]at hfit;have helem:∀i:Fin (m+1),(l.map enc)[i.1]?=some (enc l[i.1]!):=fun i=>by
  have:=i.2;rw[qW,lx (by omega),getElem!_pos l i.1 (by omega)];rfl
 have hmul:∀i:Fin (m+1),i.1*sz+sz≤(m+1)*sz:=fun i=>by have:=ei sz (Nat.succ_le_of_lt i.2);rwa[qK]at this
 generalize hcof:(fun i:Fin (m+1)=>(List.range sz).map fun j=>c.getD (i.1*sz+j) undef)=cellsOf;have cl:∀i,(cellsOf i).length=sz:=fun i=>by rw[←hcof];simp
 have cg:∀i j,j<sz→(cellsOf i)[j]?=some (c.getD (i.1*sz+j) undef):=fun i j hj=>by rw[←hcof];simp[hj]
 generalize hd:(Array.ofFn (n:=m+1) id)=d;have hds:d.size=m+1:=by rw[←hd];simp
 have hdg:∀j (hj:j<m+1),d[j]! =⟨j,hj⟩:=fun j hj=>by rw[getElem!_pos d j (by omega)];subst hd;simp
 have hflat:∀(dk:Array (Fin (m+1))),dk.size=m+1→∀i j,i<m+1→j<sz→(flatK cellsOf sz dk)[i*sz+j]! =c.getD ((dk[i]!).1*sz+j) undef:=fun dk hdk i j hi hj=>by
  have h1:i*sz+j<dk.size*sz:=by have:=ei sz (Nat.succ_le_of_lt hi);rw[qK]at this;rw[hdk];omega
  rw[get_flatK cellsOf sz dk _ h1];have h2:(i*sz+j)/sz=i:=by rw[Nat.mul_comm,Nat.mul_add_div hsz0,Nat.div_eq_of_lt hj,pB]
  have h3:(i*sz+j)%sz=j:=by rw[Nat.mul_comm,Nat.mul_add_mod,Nat.mod_eq_of_lt hj]
  rw[h2,h3,getElem!_pos _ j (by rw[cl];exact hj)];have:=cg (dk[i]!) j hj;rw[lx (by rw[cl];exact hj)]at this;simpa using this
 have hH:HoldsK cellsOf sz w p.blk 0 d:=by
  intro k hk;rw[size_flatK,hds]at hk;have hi:k/sz<m+1:=Nat.div_lt_of_lt_mul (by rw[Nat.mul_comm];exact hk);have hj:k%sz<sz:=Nat.mod_lt _ hsz0;have hk2:k/sz*sz+k%sz=k:=by rw[Nat.mul_comm];exact Nat.div_add_mod k sz
  have:=hflat d hds (k/sz) (k%sz) hi hj;rw[hdg _ hi,hk2]at this;rw[this,fw];have hkc:k<c.size:=by omega
  refine⟨?_,by simp[World.frozen?,hbl]⟩;simp only[World.cell?,hbl];simp only[Option.isSome_none,gy,if_false];rw[EL hkc];simp[Array.getD,hkc]
 have hrelE:∀(i:Fin (m+1)) cs,enc l[i.1]! =.agg cs→cs.length=sz∧(∀y,y∈cs→cL y=true)∧∀(j:Nat)(y:AV),cs[j]?=some y→VRel pl M y (c.getD (i.1*sz+j) undef):=by
  intro i cs hcs;have h1:=hm.elem _ (bg (helem i));rw[hcs]at h1;refine⟨h1.1,h1.2,fun j y hj=>?_⟩;have:=hm.cell i.1 _ j y (helem i) (by rw[hcs];exact hj);rwa[fw]at this
 have hone:∀i,∀v∈cellsOf i,v.oneCell'=true:=by
  intro i v hvm;obtain⟨j,hj,e⟩:=BC hvm;rw[cl]at hj;have h1:=cg i j hj;rw[lx (by rw[cl];exact hj),e]at h1;obtain⟨cs,hcs⟩:=hag l[i.1]!;obtain⟨k1,k2,k3⟩:=hrelE i cs hcs;have:=k3 j cs[j] (lx (by omega));cases h1
  exact this.one (k2 _ (Dq _))
 have hmemL:∀i:Fin (m+1),l[i.1]!∈l:=fun i=>by
  have:=i.2;rw[getElem!_pos l i.1 (by omega)];exact Dq _
 have hlays:CmpLays P g #[] cellsOf sz (fun i j=>cmp l[i.1]! l[j.1]!) p.blk 0 d.size w:=by
  intro n os dk hdk x y;generalize hW:sortWorldK cellsOf sz w p.blk 0 n dk os=W;have hWo:∀b,b<w.heap.size→b≠p.blk→W.heap[b]?=w.heap[b]?:=fun b h1 h2=>by rw[←hW];exact kf h1 h2
  have hrW:cM (fun _=>none) M AHeap.none W:=qc (pl:=fun _=>none) (n:=0) (g:=AHeap.none.get) ⟨fun _ _ h=>by simp at h,fun _ _ _ h=>by simp at h,fun _ _ h=>by simp at h,fun _ _ _ _ h=>by simp at h,fun b c' hM=>by
   obtain⟨t',fr,q⟩:=hr.imm b c' hM;refine⟨t',fr,?_⟩;rw[hWo b (hr.memLt hM) (fun e=>by have:=hr.sep oid p hp;rw[←e,hM]at this;cases this)];exact q,fun _ _ h=>by simp at h⟩
  have hrel:∀i:Fin (m+1),VRel (fun _=>none) M (enc l[i.1]!) (.agg (cellsOf i).toArray):=by
   intro i;obtain⟨cs,hcs⟩:=hag l[i.1]!;obtain⟨k1,k2,k3⟩:=hrelE i cs hcs;have ht:=htop l[i.1]!;rw[hcs]at ht ⊢;refine .agg (by simp[cl,k1]) k2 fun j y hj=>?_
   have hj':j<sz:=by rw[←k1];exact(gi.1 hj).1
   have e:(cellsOf i).toArray.getD j undef=c.getD (i.1*sz+j) undef:=by
    have:=cg i j hj';rw[gm,oW,this];rfl
   rw[e];exact(k3 j y hj).none (kX.1 ht y (bg hj))
  have hc:=hcmp _ (hmemL x) _ (hmemL y) AHeap.none (fun _=>none) M W #[.agg (cellsOf x).toArray,.agg (cellsOf y).toArray] (hG.none hGT) hrW ⟨rfl,fun j z hj=>by
   match j,hj with
   |0,hj=>cases hj;exact hrel x
   |1,hj=>cases hj;exact hrel y⟩
  rcases hc with⟨h1,h2⟩|⟨cv,w',v,h',h1,h2,h3⟩
  ·refine Calls.mono h2 fun e w' ⟨cv,v,h',k1,k2,pl',M',k3,k4,k5,k6⟩=>?_
   obtain⟨k2,_⟩:=k2;subst k2;cases k3
   refine⟨k1,?_⟩;obtain⟨q,hq⟩:=regrown_of_below (w:=W) (w':=w') ⟨k5.os,k5.tape,k5.out,k5.size,fun b hb=>k5.kept b hb fun id p h=>by simp at h⟩;refine⟨w'.drawn-W.drawn,q.os,?_⟩;have hd1:w'.drawn=q.d:=by rw[hq];rfl
   have hd2:=k5.drawn;have:redrawn W q.d=W.drewN (w'.drawn-W.drawn):=by
    show({W with drawn:=q.d}:World)={W with drawn:=W.drawn+(w'.drawn-W.drawn)}
    congr 1;omega
   rw[←this];exact hq
  ·rw[hg2]at h1;cases h1
 refine .inl ⟨hE _ _,?_⟩;have hcall:=hC m cellsOf (fun i j=>cmp l[i.1]! l[j.1]!) p.blk 0 cap' d w cl hone ⟨fun x=>hO.irrefl _,fun x y z=>hO.trans _ _ _,fun x y z=>hO.ntrans _ _ _⟩ hlays hH hlt (by omega);rw[show d.size=l.length by omega]at hcall;refine Calls.mono hcall fun e w' ⟨he,d',n,os,hP,hS,hw⟩=>?_
 obtain⟨hp1,_,hp3⟩:=hP;have hd's:d'.size=m+1:=by omega
 have hperm:d'.toList.Perm d.toList:=by
  have e1:d'.extract 0 l.length=d':=by rw[show l.length=d'.size by omega];exact Array.extract_size
  have e2:d.extract 0 l.length=d:=by rw[show l.length=d.size by omega];exact Array.extract_size
  rwa[e1,e2]at hp3
 have hdl:d.toList.map (fun i=>l[i.1]!)=l:=by
  apply List.ext_getElem?;intro i;by_cases hi:i<l.length
  ·rw[qW,Array.getElem?_toList,EL (by omega),lx hi];have:=hdg i (by omega);rw[getElem!_pos d i (by omega)]at this;rw[this];show some (l[i]!)=some l[i]
   rw[getElem!_pos l i hi]
  ·rw[List.getElem?_eq_none (by simp;omega),List.getElem?_eq_none (by omega)]
 have hl':(d'.toList.map (fun i=>l[i.1]!)).length=l.length:=by simp;omega
 refine⟨.tuple #[],.tuple [],_,he,⟨d'.toList.map (fun i=>l[i.1]!),⟨?_,?_⟩,rfl,rfl⟩,pl,M,rZ,?_⟩
 ·have:=hperm.map (fun i=>l[i.1]!);rwa[hdl]at this
 ·rw[Jt];intro i j hi hj hij;have hi':i<d'.size:=by simpa using hi
  have hj':j<d'.size:=by simpa using hj
  have:=hS i j (bN _) hij (by omega);rw[getElem!_pos d' i hi',getElem!_pos d' j hj']at this;simpa[DF,ltOf]using this
 ·have hw1:w'.heap[p.blk]?=some (.cells (putCells id 0 (flatK cellsOf sz d') c) t (0,0)):=by rw[hw];exact qt hbl
  obtain⟨r1,r2⟩:=tW (w':=w') (xs':=(d'.toList.map (fun i=>l[i.1]!)).map enc) hr hp hg hbl hw1 (by simp[putCells]) (by simp;omega) (fun x hx=>by
    obtain⟨z,h1,rfl⟩:=j9.1 hx;obtain⟨i,_,rfl⟩:=j9.1 h1;exact hm.elem _ (bg (helem i))) (fun i x j y q1 q2=>by
    rw[qW,qW,Array.getElem?_toList]at q1;obtain⟨z,e1,rfl⟩:=EI.1 q1;obtain⟨k,e2,rfl⟩:=EI.1 e1;have hi:i<d'.size:=(wx.1 e2).1;obtain⟨cs,hcs⟩:=hag l[k.1]!;obtain⟨k1,k2,k3⟩:=hrelE k cs hcs;rw[hcs]at q2;have hj:j<sz:=by rw[←k1];exact(gi.1 q2).1
    have hb1:i*sz+j<(m+1)*sz:=by have:=ei sz (Nat.succ_le_of_lt (show i<m+1 by omega));rw[qK]at this;omega
    rw[nS (by rw[size_flatK,hd's];exact hb1) (by omega)];have:=hflat d' hd's i j (by omega) hj;have e3:d'[i]! =k:=by rw[getElem!_pos d' i hi];rw[EL hi]at e2;simpa using e2
    rw[e3]at this;show VRel pl M y (flatK cellsOf sz d')[i*sz+j]!
    rw[this];exact k3 j y q2) (by rw[hw];exact n6) (by rw[hw];exact Bn) (fun b hb hne=>by rw[hw];exact kf hb hne)
  exact⟨r1,r2,ao _⟩
end
end Go.Ev
namespace Go.Ev
open Go
theorem yj(a b:Int):aC (j8 a b) 0=aC a b:=by
 unfold j8;cases h:aC a b with
 |true=>rfl
 |false=>cases h2:aC b a<;>rfl
noncomputable def oQ(l:List PSpan)(d:Int):Nat:=(l.takeWhile fun s=>aC s.from_ d).length
theorem Ek(l:List PSpan)(d:Int):oQ l d≤l.length:=by
 induction l with
 |nil=>simp[oQ]
 |cons a r ih=>grind[oQ,List.takeWhile_cons]
def sq(l:List PSpan):Prop:=l.Pairwise fun a b=>a.from_≤b.from_
theorem AA{d:Int}:∀{l:List PSpan},sq l→∀k,k<l.length→(aC (gD l k).from_ d=true↔k<oQ l d)
 |[],_,k,h=>by simp_all
 | a::r,hs,k,h=>by
  obtain⟨h1,h2⟩:=jd.1 hs;unfold oQ;rw[List.takeWhile_cons];cases q:aC a.from_ d with
  | true=>
   simp only[if_true,cT];cases k with
   |zero=>grind[gD]
   |succ k=>
    have:=AA (d:=d) h2 k (by simp_all);rw[show gD (a::r) (k+1)=gD r k from rfl,this];grind[oQ]
  |false=>
   simp only[gy,if_false,gL,oX,iff_false,Bool.not_eq_true];have hd:=aD q;grind[gx,kw]
noncomputable def IP(l:List PSpan)(d:Int):Bool:=aC (Int.ofNat (oQ l d)) (Int.ofNat l.length)&&ah (j8 (gD l (oQ l d)).from_ d) 0
theorem OU{l:List PSpan}(h:l.Pairwise fun a b=>a.to<b.from_)(h2:∀s,s∈l→s.from_<s.to):sq l:=by
 induction l with
 |nil=>exact .nil
 |cons a r ih=>
  obtain⟨h3,h4⟩:=jd.1 h;refine jd.2 ⟨fun b hb=>?_,ih h4 fun s hs=>h2 s (fk _ hs)⟩;grind
structure NrmS(l:List PSpan):Prop where
 gap:l.Pairwise fun a b=>a.to<b.from_
 ok:∀s,s∈l→0≤s.from_∧s.from_<s.to∧s.to≤1048577
theorem NrmS.sort{l:List PSpan}(h:NrmS l):sq l:=OU h.gap fun s hs=>(h.ok s hs).2.1
theorem HH:∀{l:List PSpan}{b:Int},l.Pairwise (fun a b=>a.to<b.from_)→(∀s,s∈l→b≤s.from_∧s.from_<s.to∧s.to≤1048577)→b≤1048577→Int.ofNat l.length≤1048577-b
 |[],b,_,_,hb=>by simp_all
 |a::r,b,h,h2,hb=>by
  obtain⟨h3,h4⟩:=jd.1 h;have h5:=h2 a (e9 ..);have:=HH (l:=r) (b:=b+1) h4 (fun s hs=>by grind) (by omega);grind
theorem NrmS.len{l:List PSpan}(h:NrmS l):l.length≤1048577:=by
 have:=HH (b:=0) h.gap h.ok (by omega);grind
noncomputable def iI(l:List PSpan)(d:Int):Bool:=IP l d||(aC 0 (Int.ofNat (oQ l d))&&aC d (gD l (oQ l d-1)).to)
theorem DC(a b:Int):Ch a b=max a b:=by
 unfold Ch;cases h:aC a b with
 |true=>have:=al h;grind
 |false=>have:=aD h;grind
theorem IA(a b:Int):NY a b=min a b:=by
 unfold NY;cases h:aC b a with
 |true=>have:=al h;grind
 |false=>have:=aD h;grind
noncomputable abbrev Vp(s:PSpan):PSpan:=⟨Ch s.from_ 0,NY s.to 1048577⟩
noncomputable abbrev Xl(s:PSpan):Bool:=aC (Ch s.from_ 0) (NY s.to 1048577)
noncomputable def jo:List PSpan→List PSpan
 |[]=>[]
 |s::r=>match Xl s with|true=>Vp s::jo r|false=>jo r
theorem uN{s:PSpan}{r:List PSpan}(h:Xl s=true):jo (s::r)=Vp s::jo r:=by grind[jo]
theorem uO{s:PSpan}{r:List PSpan}(h:Xl s=false):jo (s::r)=jo r:=by grind[jo]
theorem C6:∀(l:List PSpan),(jo l).length≤l.length
 |[]=>by simp[jo]
 |s::r=>by
  have:=C6 r;cases h:Xl s with
  |true=>grind[uN]
  |false=>grind[uO]
theorem AB:∀{l:List PSpan}{s:PSpan},s∈jo l→0≤s.from_∧s.from_<s.to∧s.to≤1048577
 | a::r,s,hs=>by
  cases h:Xl a with
  |true=>
   rw[uN h]at hs;rcases fE.1 hs with e|e
   ·subst e;have h2:=al h;grind[DC,IA]
   ·exact AB e
  |false=>rw[uO h]at hs;exact AB hs
def memB(l:List PSpan)(d:Int):Bool:=l.any fun s=>decide (s.from_≤d∧d<s.to)
def Oj(d:Int):Bool:=decide (0≤d∧d<1048577)
theorem mS(d:Int):memB [] d=false:=rfl
theorem eW(a:PSpan)(l:List PSpan)(d:Int):memB (a::l) d=(decide (a.from_≤d∧d<a.to)||memB l d):=rfl
theorem zi(l r:List PSpan)(d:Int):memB (l++r) d=(memB l d||memB r d):=by simp[memB]
theorem iL{l:List PSpan}{d:Int}:memB l d=true↔∃s,s∈l∧s.from_≤d∧d<s.to:=by simp[memB]
theorem Nq{l r:List PSpan}(h:l.Perm r)(d:Int):memB l d=memB r d:=by
 rw[Dz,iL,iL];grind
theorem C5:∀(l:List PSpan)(d:Int),memB (jo l) d=(Oj d&&memB l d)
 |[],d=>by simp[jo,memB]
 | a::r,d=>by
  have ih:=C5 r d;have e:∀b:Bool,(b=decide (0≤d∧d<1048577∧a.from_≤d∧d<a.to))→(b||(Oj d&&memB r d))=(Oj d&&memB (a::r) d):=fun b hb=>by grind[eW,Oj]
  cases h:Xl a with
  |true=>
   rw[uN h,eW,ih];refine e _ ?_;simp only[DC,IA];grind
  |false=>
   rw[uO h,ih];have h2:=aD h;simp only[DC,IA]at h2;grind
theorem NrmS.tail{a:PSpan}{r:List PSpan}(h:NrmS (a::r)):NrmS r:=⟨(jd.1 h.gap).2,fun s hs=>h.ok s (fk _ hs)⟩
theorem NrmS.low{a x:PSpan}{r:List PSpan}(h:NrmS (a::r))(hx:x∈r):a.to<x.from_:=(jd.1 h.gap).1 x hx
theorem NrmS.head{a:PSpan}{r:List PSpan}(h:NrmS (a::r)):0≤a.from_∧a.from_<a.to∧a.to≤1048577:=h.ok a (e9 ..)
theorem yQ:NrmS []:=⟨.nil,fun s h=>by grind⟩
theorem rq{a:PSpan}{r:List PSpan}(h:NrmS (a::r)):memB (a::r) a.from_=true:=by grind[eW,cases NrmS]
theorem FN{a:PSpan}{r:List PSpan}(h:NrmS (a::r)){d:Int}(hd:memB (a::r) d=true):a.from_≤d:=by
 obtain⟨s,h1,h2,h3⟩:=iL.1 hd;rcases fE.1 h1 with e|e
 ·simp_all
 ·have:=h.low e;grind[cases NrmS]
theorem P0{a:PSpan}{r:List PSpan}(h:NrmS (a::r)):memB (a::r) a.to=false:=by
 cases q:memB (a::r) a.to with
 |false=>rfl
 |true=>
  obtain⟨s,h1,h2,h3⟩:=iL.1 q;rcases fE.1 h1 with e|e
  ·simp_all
  ·have:=h.low e;omega
theorem FM{a:PSpan}{r:List PSpan}(h:NrmS (a::r))(d:Int):memB r d=(decide (a.to≤d)&&memB (a::r) d):=by
 rw[eW];by_cases h1:a.to≤d
 ·grind
 ·have:memB r d=false:=by
   cases q:memB r d with
   |false=>rfl
   |true=>
    obtain⟨s,h2,h3,h4⟩:=iL.1 q;have:=h.low h2;omega
  grind
theorem za:∀{r s:List PSpan},NrmS r→NrmS s→(∀d,memB r d=memB s d)→r=s
 |[],[],_,_,_=>rfl
 |[],b::s,_,hs,h=>by grind[rq,mS]
 |a::r,[],hr,_,h=>by grind[rq,mS]
 | a::r,b::s,hr,hs,h=>by
  have h1:b.from_≤a.from_:=FN hs (by grind[rq]);have h2:a.from_≤b.from_:=FN hr (by grind[rq]);have ha:=hr.head;have hb:=hs.head;have h3:¬a.to<b.to:=fun q=>by grind[eW,P0]
  have h4:¬b.to<a.to:=fun q=>by grind[eW,P0]
  have e:a=b:=by
   obtain⟨a1,a2⟩:=a;obtain⟨b1,b2⟩:=b;grind
  subst e;rw[za hr.tail hs.tail fun d=>by rw[FM hr,FM hs,h]]
def wY(f:Int→Bool)(d:Int)(l:List PSpan):List PSpan:=match f d with
 |false=>l
 |true=>match l with
  |[]=>[⟨d,d+1⟩]
  |s::r=>if s.from_=d+1 then⟨d,s.to⟩::r else⟨d,d+1⟩::s::r
def wA(f:Int→Bool):Nat→List PSpan
 |0=>[]
 |k+1=>wY f (1048577-Int.ofNat (k+1)) (wA f k)
theorem OW{f:Int→Bool}{d:Int}{l:List PSpan}(h0:0≤d)(h1:d+1≤1048577)(hl:NrmS l)(hf:∀s,s∈l→d+1≤s.from_):
  NrmS (wY f d l)∧(∀s,s∈wY f d l→d≤s.from_)∧∀e,memB (wY f d l) e=((decide (e=d)&&f e)||memB l e):=by
 unfold wY;cases hfd:f d with
 |false=>grind
 | true=>
  match l,hl,hf with
  |[],_,_=>
   refine⟨⟨by simp,fun s hs=>by grind⟩,fun s hs=>by simp_all,fun e=>?_⟩;simp only[eW,mS,Bool.or_false];grind
  | s::r,hl,hf=>
   have hs:=hl.head;have hs2:=hf s (e9 ..);simp only[];by_cases q:s.from_=d+1
   ·rw[if_pos q];refine⟨⟨jd.2 ⟨fun x hx=>hl.low hx,hl.tail.gap⟩,fun x hx=>?_⟩,fun x hx=>?_,fun e=>?_⟩
    ·grind[cases NrmS]
    ·grind
    ·simp only[eW];grind
   ·rw[if_neg q];refine⟨⟨jd.2 ⟨fun x hx=>?_,hl.gap⟩,fun x hx=>?_⟩,fun x hx=>?_,fun e=>?_⟩
    ·have:=hf x hx;rcases fE.1 hx with e|e
     ·grind
     ·have:=hl.low e;grind
    ·rcases fE.1 hx with e|e
     ·grind
     ·exact hl.ok x e
    ·grind
    ·rw[eW];grind
theorem Fg(f:Int→Bool):∀k,k≤1048577→NrmS (wA f k)∧(∀s,s∈wA f k→1048577-Int.ofNat k≤s.from_)∧∀e,memB (wA f k) e=(decide (1048577-Int.ofNat k≤e∧e<1048577)&&f e)
 |0,_=>by
  refine⟨yQ,fun s h=>(by cases h),fun e=>?_⟩;have:decide (1048577-Int.ofNat 0≤e∧e<1048577)=false:=by simp_all
  rw[this];rfl
 |k+1,hk=>by
  obtain⟨h1,h2,h3⟩:=Fg f k (by omega);simp only[aP]at *;have:=OW (f:=f) (d:=1048577-((k+1:Nat):Int)) (l:=wA f k) (by omega) (by omega) h1 (fun s hs=>by grind);have h5:wA f (k+1)=wY f (1048577-((k+1:Nat):Int)) (wA f k):=by grind[wA]
  grind
theorem P3(f:Int→Bool):∃l:List PSpan,NrmS l∧∀d,memB l d=(Oj d&&f d):=by
 obtain⟨h1,_,h3⟩:=Fg f 1048577 (ao _);exact⟨_,h1,fun d=>by simp_all[Oj]⟩
noncomputable def nf(f:Int→Bool):List PSpan:=Classical.choose (P3 f)
theorem zc(f:Int→Bool):NrmS (nf f):=(Classical.choose_spec (P3 f)).1
theorem Is(f:Int→Bool)(d:Int):memB (nf f) d=(Oj d&&f d):=(Classical.choose_spec (P3 f)).2 d
theorem P4{f:Int→Bool}{r:List PSpan}(h:NrmS r)(hm:∀d,memB r d=(Oj d&&f d)):r=nf f:=za h (zc f) fun d=>by grind[Is]
theorem P5{f g:Int→Bool}(h:∀d,Oj d=true→f d=g d):nf f=nf g:=P4 (zc f) fun d=>by
 rw[Is];grind
theorem KL{l:List PSpan}(h:NrmS l):l=nf (memB l):=P4 h fun d=>by
 cases q:memB l d with
 |false=>simp_all
 |true=>
  obtain⟨s,h1,h2,h3⟩:=iL.1 q;have:=h.ok s h1;have:Oj d=true:=by unfold Oj;grind
  simp_all
theorem xL{α:Type}[Inhabited α]{l:List α}{n:Nat}(h:n<l.length):l.take (n+1)=l.take n++[gD l n]:=by grind[List.take_add_one,gD]
theorem pc{α:Type}[Inhabited α]{l:List α}{n:Nat}(h:n<l.length):l.drop n=gD l n::l.drop (n+1):=by grind[List.drop_eq_getElem_cons,gD]
theorem tD{α:Type}{l:List α}{n m:Nat}{x:α}(h:n≤m):(l.set m x).take n=l.take n:=by
 apply List.ext_getElem?;grind
theorem vP{α:Type}[Inhabited α]{l:List α}{i k:Nat}{x:α}(h:i<l.length):gD (l.set i x) k=if k=i then x else gD l k:=by
 unfold gD List.getD;grind
theorem sq.at{l:List PSpan}(h:sq l){i k:Nat}(hik:i≤k)(hk:k<l.length):(gD l i).from_≤(gD l k).from_:=by
 rcases fy i k with q|q
 ·have:=Jt.1 h i k (by omega) hk q;grind[gD]
 grind
structure MergeI(l cur:List PSpan)(n i:Nat):Prop where
 len:cur.length=l.length
 le:n≤i
 il:i≤l.length
 pos:0<i→0<n
 rest:∀k,i≤k→k<l.length→gD cur k=gD l k
 gap:∀j k,j<k→k<n→(gD cur j).to<(gD cur k).from_
 ok:∀k,k<n→0≤(gD cur k).from_∧(gD cur k).from_<(gD cur k).to∧(gD cur k).to≤1048577
 last:0<n→∀k,i≤k→k<l.length→(gD cur (n-1)).from_≤(gD l k).from_
 mem:∀d,(memB (cur.take n) d||memB (l.drop i) d)=memB l d
theorem MergeI.start(l:List PSpan):MergeI l l 0 0:=⟨rfl,ao _,bN _,fun h=>absurd h (wj _),fun _ _ _=>rfl,fun _ _ _ h=>absurd h (oX _),fun _ h=>absurd h (oX _),fun h=>absurd h (wj _),fun d=>by simp[memB]⟩
theorem MergeI.copy{l cur:List PSpan}{n i:Nat}(h:MergeI l cur n i)(hi:i<l.length)(hs:sq l)(hok:∀k,k<l.length→0≤(gD l k).from_∧(gD l k).from_<(gD l k).to∧(gD l k).to≤1048577)
  (hn:n=0∨(gD cur (n-1)).to<(gD cur i).from_):MergeI l (cur.set n (gD cur i)) (n+1) (i+1):=by
 rw[h.rest i (ao _) hi]at hn ⊢;have hl:=h.le;have hcl:=h.len;have hg:∀k,gD (cur.set n (gD l i)) k=if k=n then gD l i else gD cur k:=fun k=>vP (by omega)
 refine⟨by simp_all,by omega,by omega,fun _=>by omega,fun k h1 h2=>?_,fun j k h1 h2=>?_,fun k h1=>?_,fun _ k h1 h2=>?_,fun d=>?_⟩
 ·grind[cases MergeI]
 ·rw[hg,hg,if_neg (by omega)];by_cases e:k=n
  ·rw[if_pos e];rcases hn with hn|hn
   ·omega
   ·by_cases e2:j=n-1
    ·simp_all
    ·have h3:=h.gap j (n-1) (by omega) (by omega);grind[cases MergeI]
  ·grind[cases MergeI]
 ·rw[hg];by_cases e:k=n
  ·simp_all
  ·grind[cases MergeI]
 ·rw[hg,if_pos (by omega)];exact hs.at (by omega) h2
 ·rw[xL (by grind),hg,if_pos rfl,tD (ao _),zi,←h.mem d,pc hi,eW,eW,mS];grind
theorem MergeI.join{l cur:List PSpan}{n i:Nat}(h:MergeI l cur n i)(hi:i<l.length)(hs:sq l)(hok:∀k,k<l.length→0≤(gD l k).from_∧(gD l k).from_<(gD l k).to∧(gD l k).to≤1048577)
  (hn:0<n)(hle:(gD cur i).from_≤(gD cur (n-1)).to)(x:Int)(hx:x=Ch (gD cur (n-1)).to (gD cur i).to):MergeI l (cur.set (n-1) ⟨(gD cur (n-1)).from_,x⟩) n (i+1):=by
 rw[h.rest i (ao _) hi]at hle;rw[h.rest i (ao _) hi,DC]at hx;have hl:=h.le;have hcl:=h.len;have hg:∀k,gD (cur.set (n-1) ⟨(gD cur (n-1)).from_,x⟩) k=if k=n-1 then⟨(gD cur (n-1)).from_,x⟩else gD cur k:=fun k=>vP (by omega)
 have h4:=h.ok (n-1) (by omega);have h5:=hok i hi;have h6:=h.last hn i (ao _) hi;refine⟨by simp_all,by omega,by omega,fun _=>hn,fun k h1 h2=>?_,fun j k h1 h2=>?_,fun k h1=>?_,fun _ k h1 h2=>?_,fun d=>?_⟩
 ·grind[cases MergeI]
 ·rw[hg,hg,if_neg (by omega)];by_cases e:k=n-1
  ·grind[cases MergeI]
  ·grind[cases MergeI]
 ·rw[hg];by_cases e:k=n-1
  ·grind
  ·grind[cases MergeI]
 ·grind[cases MergeI]
 ·obtain⟨m,rfl⟩:∃m,n=m+1:=⟨n-1,by omega⟩
  simp only[Nat.add_sub_cancel]at *;rw[xL (by grind),hg,if_pos rfl,tD (ao _),zi,←h.mem d,pc hi,eW (gD l i),xL (by omega),zi,eW,eW,mS,Bool.or_false,Bool.or_false];grind
theorem MergeI.nrm{l cur:List PSpan}{n i:Nat}(h:MergeI l cur n i):NrmS (cur.take n):=by
 have hl:=h.le;have hcl:=h.len;have hil:=h.il;have hlen:(cur.take n).length=n:=by grind
 have hg:∀k (hk:k<(cur.take n).length),(cur.take n)[k]=gD cur k:=fun k hk=>by rw[List.getElem_take];unfold gD List.getD;grind
 refine⟨?_,fun s hs=>?_⟩;all_goals grind[List.pairwise_iff_getElem,List.getElem_of_mem,cases MergeI]
theorem MergeI.done{l cur:List PSpan}{n i:Nat}(h:MergeI l cur n i)(hi:l.length≤i)(d:Int):memB (cur.take n) d=memB l d:=by rw[←h.mem d,EH hi,mS,Bool.or_false]
theorem RI{l l':List PSpan}(hp:l'.Perm (jo l)):∀k,k<l'.length→0≤(gD l' k).from_∧(gD l' k).from_<(gD l' k).to∧(gD l' k).to≤1048577:=fun k hk=>AB (hp.mem_iff.1 (gx hk))
noncomputable def fc(l:List PSpan):List PSpan:=nf (memB l)
theorem FR{l r:List PSpan}(h:NrmS r)(hm:∀d,memB r d=memB (jo l) d):r=fc l:=P4 h fun d=>by grind[C5]
theorem NJ{l:List PSpan}(h:jo l=[]):[]=fc l:=FR yQ fun d=>by grind
end Go.Ev
namespace Go.Ev
open Go
theorem At{zs:List Int}(hs:zs.Pairwise fun a b=>a≤b):(bZ zs).Pairwise (fun a b=>a<b)∧∀z,z∈bZ zs↔z∈zs:=by
 generalize hd:zs.toArray=d;have hsz:d.size=zs.length:=by grind
 have hx:∀j (hj:j<zs.length),d[j]! =zs[j]:=fun j hj=>by grind
 have mono:∀i j,i≤j→j<zs.length→d[i]!≤d[j]!:=fun i j hij hj=>by
  rcases fy i j with q|q
  ·rw[hx i (by omega),hx j hj];exact Jt.1 hs i j (by omega) hj q
  grind
 have key:∀m,m≤zs.length→(Lib.compactUpTo d m).Pairwise (fun a b=>a<b)∧(∀z,z∈Lib.compactUpTo d m→∃j,j<m∧z=d[j]!)∧∀j,j<m→d[j]!∈Lib.compactUpTo d m:=by
  intro m;induction m with
  |zero=>simp_all[Lib.compactUpTo]
  | succ m ih=>
   intro hm;obtain⟨h1,h2,h3⟩:=ih (by omega);rw[Lib.compactUpTo_succ];cases hk:Lib.keeps d m with
   | true=>
    simp only[if_true];have hk':m=0∨d[m]!≠d[m-1]!:=by grind[Lib.keeps]
    refine⟨List.pairwise_append.2 ⟨h1,by simp,fun a ha b hb=>?_⟩,fun z hz=>?_,fun j hj=>?_⟩
    ·obtain⟨j,hj,rfl⟩:=h2 a ha;have hb:b=d[m]!:=by simp_all
     subst hb;have e1:=mono j (m-1) (by omega) (by omega);have e2:=mono (m-1) m (by omega) (by omega);omega
    all_goals grind
   |false=>
    simp only[gy,if_false,ec];have hk':¬(m=0∨d[m]!≠d[m-1]!):=by grind[Lib.keeps]
    grind
 obtain⟨h1,h2,h3⟩:=key zs.length (ao _);have e:bZ zs=Lib.compactUpTo d zs.length:=by grind[bZ,Lib.compact]
 rw[e];refine⟨h1,fun z=>⟨fun hz=>?_,fun hz=>?_⟩⟩
 ·grind
 ·obtain⟨j,hj,rfl⟩:=BC hz;simp_all
theorem NrmS.at{l:List PSpan}(h:NrmS l){j k:Nat}(hjk:j<k)(hk:k<l.length):(gD l j).to<(gD l k).from_:=by
 have:=Jt.1 h.gap j k (by omega) hk hjk;grind[gD]
theorem NrmS.okAt{l:List PSpan}(h:NrmS l){k:Nat}(hk:k<l.length):0≤(gD l k).from_∧(gD l k).from_<(gD l k).to∧(gD l k).to≤1048577:=h.ok _ (gx hk)
theorem Tp{l:List PSpan}{d:Int}:memB l d=true↔∃k,k<l.length∧(gD l k).from_≤d∧d<(gD l k).to:=by
 rw[iL];constructor
 ·rintro⟨s,h1,h2⟩
  obtain⟨k,hk,e⟩:=BC h1;have:gD l k=s:=by grind[gD]
  grind
 grind[gx]
theorem C3 {a b:Int}:ah (j8 a b) 0=true↔a=b:=by
 unfold j8;cases h:aC a b with
 | true => have:=al h;constructor
           ·intro h;cases h
           omega
 |false=>
  have:=aD h;cases h2:aC b a with
  | true => have:=al h2;constructor
            ·intro h;cases h
            omega
  |false=>have:=aD h2;exact⟨fun _=>by omega,fun _=>rfl⟩
theorem To{l:List PSpan}(h:NrmS l)(d:Int):iI l d=memB l d:=by
 have hi:=AA (d:=d) h.sort;have hc:=Ek l d;rw[Dz,Tp];unfold iI IP;simp only[tU,bz];constructor
 ·rintro(⟨h1,h2⟩|⟨h1,h2⟩)
  ·have h1:=al h1;simp only[aP]at h1;have h2:=C3.1 h2;have:=h.okAt (k:=oQ l d) (by omega);grind
  ·have h1:=al h1;have h2:=al h2;simp only[aP]at h1;have h3:=al ((hi (oQ l d-1) (by omega)).2 (by omega));grind
 ·rintro⟨k,hk,h1,h2⟩
  by_cases e:(gD l k).from_=d
  ·left;have e1:¬k<oQ l d:=fun q=>by have:=al ((hi k hk).2 q);omega
   have e2:¬oQ l d<k:=fun q=>by
    have h3:=h.at q hk;have h4:=h.okAt (k:=oQ l d) (by omega);grind[kj]
   have e3:oQ l d=k:=by omega
   rw[e3];exact⟨kj (by simp_all),C3.2 e⟩
  ·right;have e1:k<oQ l d:=(hi k hk).1 (kj (by omega));have e2:¬k+1<oQ l d:=fun q=>by
    have h3:=h.at (j:=k) (k:=k+1) (by omega) (by omega);have:=al ((hi (k+1) (by omega)).2 q);omega
   grind[kj]
def pb(l:List PSpan):List Int:=l.flatMap fun s=>[s.from_,s.to]
theorem CS(s:PSpan)(r:List PSpan):pb (s::r)=[s.from_,s.to]++pb r:=by simp[pb]
theorem ki:∀(l:List PSpan),(pb l).length=2*l.length
 |[]=>rfl
 |s::r=>by rw[CS];simp[ki r];omega
theorem G4{l:List PSpan}{s:PSpan}(h:s∈l):s.from_∈pb l∧s.to∈pb l:=by
 unfold pb;grind
def kY(g:Int→Bool):List Int→List PSpan
 |[]=>[]
 | a::r=>match r with
  |[]=>[]
  |b::_=>match g a with
   |true=>⟨a,b⟩::kY g r
   |false=>kY g r
theorem Fb(g:Int→Bool)(a b:Int)(r:List Int):kY g (a::b::r)=match g a with|true=>⟨a,b⟩::kY g (b::r)|false=>kY g (b::r):=by rw[kY]
def pE:Int→List Int→Int
 |a,[]=>a
 |_,b::r=>pE b r
theorem zF:∀{r:List Int}{a:Int},(a::r).Pairwise (fun a b=>a<b)→a≤pE a r∧∀z,z∈r→z≤pE a r
 |[],a,_=>⟨Int.le_refl _,fun z h=>by grind⟩
 |b::r,a,h=>by
  obtain⟨h1,h2⟩:=jd.1 h;have h3:=h1 b (e9 ..);obtain⟨k1,k2⟩:=zF h2;grind[pE]
theorem Fc{g:Int→Bool}{C:List Int}(hg:∀x y,(∀z,z∈C→z≤x∨y≤z)→∀d,x≤d→d<y→g d=g x):
  ∀(r:List Int)(a:Int),(a::r).Pairwise (fun a b=>a<b)→(∀z,z∈C→z≤a∨z∈r)→∀d,memB (kY g (a::r)) d=(decide (a≤d∧d<pE a r)&&g d)
 |[],a,_,_,d=>by
  have:decide (a≤d∧d<pE a [])=false:=by grind[pE]
  rw[this];rfl
 | b::r,a,hp,hC,d=>by
  obtain⟨h1,h2⟩:=jd.1 hp;have hab:=h1 b (e9 ..);obtain⟨hb2,h3⟩:=jd.1 h2;have hl:=(zF h2).1;have ih:=Fc hg r b h2 (fun z hz=>by grind) d;have hc:∀d,a≤d→d<b→g d=g a:=hg a b fun z hz=>by grind
  have e0:memB (kY g (a::b::r)) d=((g a&&decide (a≤d∧d<b))||memB (kY g (b::r)) d):=by
   rw[Fb];cases g a with
   |true=>rw[eW,yd]
   |false=>simp_all
  rw[e0,ih,show pE a (b::r)=pE b r from rfl];grind
def ii(A:List PSpan):List Int:=bZ (c8 (pb A))
theorem Lo(A:List PSpan):(ii A).Pairwise (fun a b=>a<b)∧∀z,z∈ii A↔z∈pb A:=by
 obtain⟨h1,h2⟩:=At (th (pb A));exact⟨h1,fun z=>(h2 z).trans (iF (pb A)).mem_iff⟩
theorem zh{A l:List PSpan}(hl:∀s,s∈l→s∈A){x y:Int}(hz:∀z,z∈ii A→z≤x∨y≤z){d:Int}(h1:x≤d)(h2:d<y):memB l d=memB l x:=by
 have key:∀s,s∈l→((s.from_≤d∧d<s.to)↔(s.from_≤x∧x<s.to)):=fun s hs=>by
  obtain⟨k1,k2⟩:=G4 (hl s hs);grind[Lo]
 rw[Dz,iL,iL];grind
theorem Mk{op:Bool→Bool→Bool}(h0:op false false=false)(A B:List PSpan)(d:Int):memB (kY (fun d=>op (memB A d) (memB B d)) (ii (A++B))) d=op (memB A d) (memB B d):=by
 obtain⟨h1,h2⟩:=Lo (A++B);have out:∀(z1 z2:Int),(∀z,z∈ii (A++B)→z1≤z∧z≤z2)→¬(z1≤d∧d<z2)→op (memB A d) (memB B d)=false:=fun z1 z2 hz hd=>by
  have no:∀l:List PSpan,(∀s,s∈l→s∈A++B)→memB l d=false:=fun l hl=>by
   cases q:memB l d with
   |false=>rfl
   |true=>
    obtain⟨s,k1,k2,k3⟩:=iL.1 q;obtain⟨k4,k5⟩:=G4 (hl s k1);grind
  simp_all
 cases hC:ii (A++B)with
 |nil=>
  rw[kY,mS];exact(out (d+1) d (fun z hz=>by grind) (by omega)).symm
 | cons a r=>
  rw[hC]at h1;have hl:=zF h1;have hp:=(jd.1 h1).1;rw[Fc (C:=ii (A++B)) (fun x y hz d h3 h4=>by
   show op (memB A d) (memB B d)=op (memB A x) (memB B x)
   rw[zh (A:=A++B) (fun s hs=>EG _ hs) hz h3 h4,zh (A:=A++B) (fun s hs=>Js _ hs) hz h3 h4]) r a h1 (fun z hz=>by
   grind) d]
  by_cases q:a≤d∧d<pE a r;all_goals grind
theorem Ao(A:List PSpan):(ii A).length≤2*A.length:=by
 have:=xk (c8 (pb A));have h2:=(iF (pb A)).length_eq;grind[ki,ii]
theorem Lj{α:Type}[Inhabited α]{l z:List α}{k:Nat}(h:k<l.length):gD (l++z) k=gD l k:=by grind[gD]
theorem CV{g:Int→Bool}{C:List Int}{x:Nat}(h1:1≤x)(h2:x<C.length):kY g (C.drop (x-1))=match g (gD C (x-1))with|true=>⟨gD C (x-1),gD C x⟩::kY g (C.drop (x+1-1))|false=>kY g (C.drop (x+1-1)):=by grind[pc,Fb]
theorem lY{g:Int→Bool}{C:List Int}{x:Nat}(h1:1≤x)(h2:C.length≤x):kY g (C.drop (x-1))=[]:=by
 have:(C.drop (x-1)).length≤1:=by simp_all
 match C.drop (x-1),this with
 |[],_=>rfl
 |[_],_=>rfl
 |_::_::_,h=>simp_all
noncomputable def sU(op:Bool→Bool→Bool)(a b:List PSpan):List PSpan:=nf fun d=>op (memB a d) (memB b d)
theorem jT(l:List PSpan):NrmS (fc l):=zc _
theorem vA(l:List PSpan)(d:Int):memB (fc l) d=(Oj d&&memB l d):=Is _ d
theorem N3{op:Bool→Bool→Bool}(h0:op false false=false){a b A B:List PSpan}(hA:fc a=A)(hB:fc b=B):fc (kY (fun d=>op (iI A d) (iI B d)) (ii (A++B)))=sU op a b:=by
 have nA:NrmS A:=hA▸jT a;have nB:NrmS B:=hB▸jT b;have e:(fun d=>op (iI A d) (iI B d))=fun d=>op (memB A d) (memB B d):=funext fun d=>by grind[To]
 rw[e];unfold fc sU;refine P5 fun d hd=>?_
 rw[Mk h0,←hA,←hB,vA,vA,hd,yd,yd]
end Go.Ev
namespace Go.Ev
open Go
section
variable{H:Type}{enc:TypeId×Value→H}{P:Program}{w:World}{base:Nat}{spare:Nat→Bool}{held:Bool}
inductive VL(M:dr):List AV→List Value→Prop
 |nil:VL M [] []
 |cons {x:AV} {v:Value} {xs:List AV} {vs:List Value} (h:VRel (fun _=>none) M x v) (t:VL M xs vs):VL M (x::xs) (v::vs)
theorem VL.append{M:dr}{xs ys:List AV}{a b:List Value}(h:VL M xs a)(k:VL M ys b):VL M (xs++ys) (a++b):=by
 induction h with
 |nil=>grind
 |cons h _ ih=>exact .cons h ih
theorem VL.len{M:dr}{xs:List AV}{a:List Value}(h:VL M xs a):xs.length=a.length:=by
 induction h with
 |nil=>rfl
 |cons _ _ ih=>simp_all
theorem VL.at_{M:dr}{xs:List AV}{a:List Value}(h:VL M xs a):∀(j:Nat)(y:AV),xs[j]?=some y→∃v,a[j]?=some v∧VRel (fun _=>none) M y v:=by
 induction h with
 |nil=>simp_all
 |cons h _ ih=>grind
theorem VL.one{M:dr}{x:AV}{cs:List Value}(h:VL M [x] cs):∃v,cs=[v]∧VRel (fun _=>none) M x v:=by
 cases h with
 |cons h t=>cases t;simp_all
def Wt(P:Program)(t:TypeId)(d:DataW H):Prop:=∀m,m∈d.weights P t→m≤reachBytes
theorem qV{e:TypeId}{d:DataW H}{m:Nat}(hm:m∈d.weights P e):∀{l:List (DataW H)},d∈l→m∈DataW.weightsAll P e l
 |[],h=>by grind
 |a::r,h=>by
  unfold DataW.weightsAll;rcases fE.1 h with rfl|h
  ·simp_all
  ·exact Js _ (qV hm h)
theorem js{t:TypeId}{d:DataW H}{m:Nat}(hm:m∈d.weights P t):∀{ts:List TypeId}{l:List (DataW H)}(i:Nat),ts[i]?=some t→l[i]?=some d→m∈DataW.weightsEach P ts l
 |[],_,i,h,_=>by simp_all
 |_::_,[],i,_,h=>by simp_all
 |u::ts,a::r,i,h1,h2=>by
  unfold DataW.weightsEach;cases i with
  |zero=>simp_all
  |succ i=>exact Js _ (js hm i (by simp_all) (by simp_all))
def Ej(P:Program):List Field→Nat→Nat→Bool
 |[],off,n=>Nat.beq off n
 |f::r,off,n=>Nat.beq f.offset off&&Ej P r (off+P.cellsOf f.type) n
def VF(M:dr)(P:Program)(cs:List Value):List Field→List (List AV)→Prop
 |[],[]=>True
 |f::fs,xs::xss=>VL M xs ((cs.drop f.offset).take (P.cellsOf f.type))∧VF M P cs fs xss
 |_,_=>False
theorem VF.vl{M:dr}{cs:List Value}:∀{fs:List Field}{xss:List (List AV)}{off:Nat},Ej P fs off cs.length=true→VF M P cs fs xss→VL M xss.flatten (cs.drop off)
 |[],[],off,h,_=>by
  have:=pu h;rw[this,List.drop_length];exact .nil
 |[],_::_,_,_,h=>h.elim
 |_::_,[],_,_,h=>h.elim
 |f::fs,xs::xss,off,h,k=>by
  unfold Ej at h;rw[bz]at h;have ho:=pu h.1;have h1:=k.1;rw[ho]at h1;have h2:=VF.vl h.2 k.2;have e:cs.drop off=(cs.drop off).take (P.cellsOf f.type)++cs.drop (off+P.cellsOf f.type):=by grind[List.drop_drop,List.take_append_drop]
  rw[List.flatten_cons,e];exact h1.append h2
def TF(enc:TypeId×Value→H)(P:Program)(w:World)(base:Nat)(spare:Nat→Bool)(held:Bool)(n:Nat)(cs:List Value):List Field→Prop
 |[]=>True
 |f::fs=>(∃d p,DataW.trod enc P w base spare held n f.type ((cs.drop f.offset).take (P.cellsOf f.type))=some (d,p)∧Wt P f.type d)∧TF enc P w base spare held n cs fs
theorem VA{n:Nat}{cs:List Value}:∀(fs:List Field),(∀(i:Nat)(f:Field),fs[i]?=some f→∃d p,DataW.trod enc P w base spare held n f.type ((cs.drop f.offset).take (P.cellsOf f.type))=some (d,p)∧Wt P f.type d)→TF enc P w base spare held n cs fs
 |[],_=>trivial
 |f::fs,h=>⟨h 0 f rfl,VA fs fun i g hg=>h (i+1) g (by simp_all)⟩
theorem jQ{t:TypeId}{fs:Array Field}{fuel:Nat}{cs:List Value}{d:DataW H}{p:List MemPlace}(hu:P.underlying t=some (.struct fs))(hc:Ej P fs.toList 0 (P.cellsOf t)=true)
  (h:DataW.trod enc P w base spare held fuel t cs=some (d,p))(hw:Wt P t d):
  ∃n,fuel=n+1∧TF enc P w base spare held n cs fs.toList∧∀xss,VF (cK w) P cs fs.toList xss→VL (cK w) xss.flatten cs:=by
 obtain⟨xs,n,rfl,h1,h2,h3,h4⟩:=DataW.trod_struct hu h;simp only[tY]at h1;obtain⟨rfl,_⟩:=h1;refine⟨n,rfl,VA _ fun i f hf=>?_,fun xss hx=>?_⟩
 ·have hf':fs[i]?=some f:=by simp_all
  have hi:i<xs.length:=by grind
  have e:=h4 i f hf';rw[lx hi]at e;refine⟨xs[i].1,xs[i].2,e,fun m hm=>hw m ?_⟩;unfold DataW.weights;rw[hu];exact js hm i (by simp_all) (by grind)
 ·have:=VF.vl (off:=0) (by simp_all) hx;simp_all
theorem gC{t:TypeId}{fuel:Nat}{cs:List Value}{d:DataW H}{p:List MemPlace}(hu:P.underlying t=some (.int .i64))(h:DataW.trod enc P w base spare held fuel t cs=some (d,p)):∃x,VL (cK w) [.int .i64 x] cs:=by
 obtain⟨x,rfl,_⟩:=DataW.trod_int hu h;exact⟨x,.cons (.int _ _) .nil⟩
theorem nN{t:TypeId}{fuel:Nat}{cs:List Value}{d:DataW H}{p:List MemPlace}(hu:P.underlying t=some .string)(h:DataW.trod enc P w base spare held fuel t cs=some (d,p)):∃s,VL (cK w) [.str s] cs:=by
 obtain⟨⟨⟨s⟩⟩,rfl,_⟩:=DataW.trod_string hu h;exact⟨s,.cons (.str _) .nil⟩
theorem K3{α:Type}{Q:Nat→α→Prop}:∀(n:Nat),(∀i,i<n→∃x,Q i x)→∃l:List α,l.length=n∧∀i x,l[i]?=some x→Q i x
 |0,_=>⟨[],rfl,fun i x h=>by simp_all⟩
 |n+1,h=>by
  obtain⟨l,h1,h2⟩:=K3 n fun i hi=>h i (by omega)
  obtain⟨y,hy⟩:=h n (by omega);refine⟨l++[y],by simp_all,fun i x hx=>?_⟩;grind
theorem ZQ{x:AV}(h:x.cells.all cL=true):Sc x:=fun y hy=>mK.1 h y hy
theorem IY{α:Type}(el:α→AV)(fit:α→Prop){t e:TypeId}{fuel:Nat}{cs:List Value}{d:DataW H}{p:List MemPlace}(hu:P.underlying t=some (.slice e))(hsz:Nat.blt 0 (P.cellsOf e)=true)(hby:Nat.blt 0 (P.bytesOf e)=true)
  (hel:∀x,(el x).cells.length=P.cellsOf e)(hsc:∀x,(el x).cells.all cL=true)(htop:∀x,(el x).top=0)
  (hrec:∀m,m<fuel→∀cs d p,DataW.trod enc P w base spare held m e cs=some (d,p)→Wt P e d→∃x,fit x∧VL (cK w) (el x).cells cs)
  (h:DataW.trod enc P w base spare held fuel t cs=some (d,p))(hw:Wt P t d):
  ∃l:List α,l.length<2^47∧(∀x,x∈l→fit x)∧VL (cK w) [.ls (l.map el)] cs:=by
 rw[dm]at hsz hby;simp only[decide_eq_true_eq]at hsz hby;rcases DataW.trod_slice hu h with⟨rfl,_⟩|⟨a,len,cap,elems,rest,n,rfl,rfl,h1,h2,h3,h4,h5,h6,_,_⟩
 ·exact⟨[],Nat.two_pow_pos 47,fun x h=>absurd h (List.not_mem_nil),.cons .lsn .nil⟩
 ·simp only[tY]at h1;obtain⟨rfl,_⟩:=h1;have hwl:len<2^47:=by
   have:=hw ((elems.length+rest.length)*P.bytesOf e) (by grind[DataW.weights]);have h7:elems.length≤(elems.length+rest.length)*P.bytesOf e:=bT (Nat.le_add_right _ _) (Nat.le_mul_of_pos_right _ hby);have:elems.length≤reachBytes:=bT h7 this;rw[h5]at this;exact mp this (by decide)
  have el0:∀i,i<len→∃x,fit x∧∃cs:List Value,cs.length=P.cellsOf e∧(∀j,j<P.cellsOf e→w.cell? ((a.add (i*P.cellsOf e)).add j)=cs[j]?)∧VL (cK w) (el x).cells cs:=by
   intro i hi;have k5:=h6 i hi;have hi':i<elems.length:=by omega
   rw[lx hi']at k5;simp only[Option.bind_eq_some_iff]at k5;obtain⟨cs,c1,c2⟩:=k5;obtain⟨z1,z2⟩:=C7 c1;obtain⟨x,f1,f2⟩:=hrec n (by omega) cs elems[i].1 elems[i].2 c2 (fun m hm=>hw m (by
    unfold DataW.weights;rw[hu];exact fk _ (EG _ (qV hm (j9.2 ⟨elems[i],Dq hi',rfl⟩)))))
   grind
  obtain⟨l,q1,q2⟩:=K3 len el0;refine⟨l,by omega,fun x hx=>?_,.cons ?_ .nil⟩
  ·obtain⟨i,hi⟩:=EO.1 hx;grind
  ·have q1':(l.map el).length=len:=by simp_all
   generalize hys:l.map el=ys at *;have q3:∀i y,ys[i]?=some y→∃cs:List Value,cs.length=P.cellsOf e∧(∀j,j<P.cellsOf e→w.cell? ((a.add (i*P.cellsOf e)).add j)=cs[j]?)∧VL (cK w) y.cells cs:=by grind
   have q4:∀y,y∈ys→y.cells.length=P.cellsOf e∧Sc y:=by grind[ZQ]
   have q5:aq ys=0:=by grind[aX]
   have addadd:∀i j:Nat,a.spot=none→(a.add i).add j=⟨a.block,a.off+i+j,none⟩:=by
    intro i j hs;obtain⟨blk,off,spot⟩:=a;grind[Addr.add]
   have spot:ys≠[]→a.spot=none:=by
    intro hne;obtain⟨x,hx⟩:∃x,ys[0]?=some x:=by
     cases ys with
     |nil=>simp_all
     |cons x r=>exact⟨x,rfl⟩
    grind[rl,Addr.add]
   have cell:∀(i j:Nat)(x:AV),ys[i]?=some x→j<P.cellsOf e→∃c v,cK w a.block=some c∧c[a.off+i*P.cellsOf e+j]?=some v∧∀y,x.cells[j]?=some y→VRel (fun _=>none) (cK w) y v:=by
    intro i j x hx hj;obtain⟨cs,c1,c2,c3⟩:=q3 i x hx;have:=c2 j hj;rw[lx (by omega),addadd _ _ (spot (by grind))]at this;obtain⟨_,c,m1,m2⟩:=rl this;refine⟨c,_,m1,m2,fun y hy=>?_⟩;obtain⟨v,g1,g2⟩:=c3.at_ j y hy;simp_all
   refine .lsp ?_ q5;by_cases hne:ys=[]
   ·subst hne;simp at q1';subst q1';exact .ps (sz:=P.cellsOf e) (c:=#[]) (by simp) (fun h=>by grind) (fun h=>absurd rfl h) (fun x h=>by simp_all) (fun i x j y h=>by simp_all)
   ·have hlen:0<ys.length:=pA.2 hne;obtain⟨x0,hx0⟩:∃x,ys[ys.length-1]?=some x:=⟨ys[ys.length-1],by simp⟩
    obtain⟨c,v0,m1,m2,_⟩:=cell (ys.length-1) (P.cellsOf e-1) x0 hx0 (by omega);have hc:=(wx.1 m2).1;have hfit:a.off+ys.length*P.cellsOf e≤c.size:=by
     have h1:(ys.length-1)*P.cellsOf e+P.cellsOf e=ys.length*P.cellsOf e:=by rw[←qK];grind
     omega
    have:=VRel.ps (pl:=fun _=>none) (M:=cK w) (xs:=ys) (tight:=false) (a:=a) (cap:=cap) (sz:=P.cellsOf e) (c:=c) (by omega) (fun h=>by grind) (fun _=>⟨spot hne,m1,hfit,hsz⟩) q4
     (fun i x j y hx hy=>by
      obtain⟨r1,_⟩:=q4 x (bg hx);have hj:j<P.cellsOf e:=by grind
      obtain⟨c',v,n1,n2,n3⟩:=cell i j x hx hj;simp_all)
    simp_all
theorem lj{α:Type}(el:α→AV)(fit:α→Prop){t e:TypeId}{fuel:Nat}{cs:List Value}{d:DataW H}{p:List MemPlace}(hu:P.underlying t=some (.slice e))(hsz:Nat.blt 0 (P.cellsOf e)=true)(hby:Nat.blt 0 (P.bytesOf e)=true)
  (hel:∀x,(el x).cells.length=P.cellsOf e)(hsc:∀x,(el x).cells.all cL=true)(htop:∀x,(el x).top=0)
  (hrec:∀m,m<fuel→∀cs d p,DataW.trod enc P w base spare held m e cs=some (d,p)→Wt P e d→∃x,fit x∧VL (cK w) (el x).cells cs)
  (h:DataW.trod enc P w base spare held fuel t cs=some (d,p))(hw:Wt P t d):
  ∃l:List α,l.length<2^60∧(∀x,x∈l→fit x)∧VL (cK w) [.ls (l.map el)] cs:=by
 have⟨l,h1,h2⟩:=IY el fit hu hsz hby hel hsc htop hrec h hw;grind
end
end Go.Ev
namespace Go.Ev
open Go
structure PPair where
 a:Int
 b:Int
deriving Inhabited,DecidableEq
structure PRef where
 act:Int
 item:Int
deriving Inhabited,DecidableEq
def ni(u:TUnit):List PWord:=u.head++u.words
mutual
def nq:TUnit→List PWord
 |⟨_,_,_,_,_,h,w,ks⟩=>(h++w)++kH ks
def kH:List TUnit→List PWord
 |[]=>[]
 |k::r=>nq k++kH r
end
theorem LL(u:TUnit):nq u=ni u++kH u.kids:=by obtain⟨a,b,c,d,e,h,w,ks⟩:=u;rw[nq];rfl
theorem DY:kH []=[]:=by rw[kH]
theorem tZ(k:TUnit)(r:List TUnit):kH (k::r)=nq k++kH r:=by rw[kH]
theorem ry{k:Int}:∀{m:List (Int×Int)},hJ k m=none→¬k∈m.map (·.1)
 |[],_=>by simp
 | (i,x)::r,h=>by
  simp only[hJ]at h;cases e:ah k i with
  |true=>grind
  |false=>
   rw[e]at h;have:=ry h;grind[G3]
section
variable{u w':TUnit}{ws:List PWord}{w:PWord}{r:List PWord}{ks:List TUnit}{m x:List (Int×Int)}{c B:Int}
end
theorem VRel.ls0{pl:Pl}{M:dr}{x:Value}(h:VRel pl M (.ls []) x):VRel pl M .nils x∨VRel pl M (.ps [] false) x:=by
 cases h with
 |lsn=>exact .inl .nils
 |lsp h _=>simp_all
theorem EC{P:Program}{G:eA}{f:FuncId}{a b c:List AV}{h:AHeap}{Ψ:AV→AHeap→Prop}(hs:∀pl M vs,VRels pl M c vs→VRels pl M a vs∨VRels pl M b vs)(h1:aH P G f a h Ψ)(h2:aH P G f b h Ψ):aH P G f c h Ψ:=fun pl M w vs hg hr hv=>(hs pl M vs hv).elim (h1 pl M w vs hg hr) (h2 pl M w vs hg hr)
theorem VRels.first{pl:Pl}{M:dr}{x y z:AV}{r:List AV}{vs:Array Value}(h:VRels pl M (z::r) vs)(hs:∀v,VRel pl M z v→VRel pl M x v∨VRel pl M y v):VRels pl M (x::r) vs∨VRels pl M (y::r) vs:=by
 obtain⟨h1,h2⟩:=h;have lift:∀u,VRel pl M u (vs.getD 0 undef)→VRels pl M (u::r) vs:=fun u hu=>⟨h1,fun j y hj=>by
  cases j with
  |zero=>grind
  |succ j=>simp_all⟩
 exact(hs _ (h2 0 z rfl)).imp (lift x) (lift y)
end Go.Ev
namespace Go.Ev
open Go
theorem aM{n b m:Nat}(h1:n≤m)(h2:m≤2^40)(h3:m*b≤2^40):small n b=true:=by
 unfold small;have h4:n*b≤m*b:=ei b h1;grind[Nat.ble_eq_true_of_le]
def X3(d:Int):List Int→List Int
 |[]=>[d]
 |x::r=>bif aC x d then x::X3 d r else bif ah x d then x::r else d::x::r
def fg(ws:List PWord)(l:List Int):List Int:=ws.foldl (fun l w=>X3 w.act l) l
end Go.Ev
namespace Go.Ev
open Go
def S7{α:Type}:Result α→World
 | .ok _ w=>w
 | .halt _ w=>w
def gW:GStep→World
 | .go _ w _=>w
 | .comm _ _ _ _ w _=>w
 | .spawn _ _ w _=>w
 | .count _ w _=>w
 | .timer _ _ w _=>w
 | .alone _ _ w _=>w
 | .newcoro _ _ _ w _=>w
 | .coroswitch _ _ _ w _=>w
 | .collect _ w _=>w
 | .watch _ w _=>w
 | .ended _ w _=>w
theorem lh(es:Array Event)(g:GStep):gW (GStep.after es g)=gW g:=by cases g<;>rfl
theorem Jg{α:Type}:∀(q:Ask α)(w:World),w.drawn≤(w.ask q).2.drawn
 | .done a,w=>ao _
 | .ask what range k,w=>by
  rw[World.ask];split
  ·exact Jg (k 0) w
  ·exact bT (mA _) (Jg _ {w with drawn:=w.drawn+1})
theorem OT(w:World)(c:Sys):w.drawn≤(w.sys c).2.drawn:=by
 unfold World.sys;have h:=Jg (Kernel.perform c w.os) w;grind
theorem xi{p:Program}{w w':World}{at_:Addr}{u:TypeId}{k:Addr}{v:Value}{b:Bool}{l:List Addr}(h:w.viewStore p at_ u k v b=.ok (w',l)):w'.drawn=w.drawn:=by
 unfold World.viewStore at h;simp only[bind,Except.bind,pure,Except.pure]at h
 repeat' split at h
 all_goals first|cases h;done|(injection h with h;injection h with h1 h2;rw[←h1])
theorem Ak{p:Program}{w w':World}{a:Addr}{v:Value}{b:Bool}{l:List Addr}(h:w.farStore p a v b=.ok (w',l)):w'.drawn=w.drawn:=by
 unfold World.farStore at h
 repeat' split at h
 all_goals first|cases h;done|grind[xi]
theorem D0(w:World)(a:Addr)(n:Nat):(w.freeze a n).drawn=w.drawn:=by unfold World.freeze;grind
theorem Px(p:Program){α:Type}(s:Sem α):∀(w:World),w.drawn≤(S7 (s.run p w)).drawn:=by
 induction s with
 |pure a=>exact fun w=>ao _
 |load m a k ih=>
  intro w;simp only[Sem.run]
  repeat' split
  all_goals first|exact ih _ _|exact ao _
 | store m a v k ih=>
  intro w;cases v
  all_goals simp only[Sem.run]
  all_goals first
   |exact ao _
   |((repeat' split);all_goals first|exact ao _|exact ih (w.setCell _ _)|(rename_i e;refine bT ?_ (ih _);rw[Ak e];exact ao _))
 |new o k ih=>grind[Sem.run]
 |shape r k ih=>grind[Sem.run]
 |freeze a n k ih=>intro w;simp only[Sem.run];refine bT ?_ (ih _);simp_all[D0]
 |frozen a k ih=>grind[Sem.run]
 |getObj r k ih=>
  intro w;simp only[Sem.run]
  repeat' split
  all_goals first|exact ih _ _|exact ao _
 |setObj r o k ih=>
  intro w;simp only[Sem.run]
  repeat' split
  all_goals first|exact ih {w with heap:=w.heap.setIfInBounds r o}|exact ao _
 |choose q k ih=>
  intro w;simp only[Sem.run];grind
 |sys c k ih=>grind[Sem.run,OT]
 |program k ih=>grind[Sem.run]
 |mark m k ih=>grind[Sem.run]
 |halt h=>exact fun w=>ao _
theorem cF{p:Program}{α:Type}{s:Sem α}{w:World}{r:Result α}(h:s.run p w=r):w.drawn≤(S7 r).drawn:=h▸Px p s w
theorem S4{p:Program}{α:Type}{s:Sem α}{w:World}{es es':Array Event}{r:Result α}(h:s.runT p w es=(r,es')):w.drawn≤(S7 r).drawn:=by
 have:=Sem.runT_fst p s w es;rw[h]at this;exact cF this.symm
theorem JU(w:World)(fd:Nat)(text:ByteArray)(o:Outcome):w.drawn≤(gW (endWith w fd text o)).drawn:=by
 unfold endWith;simp only[];have h:=OT w (.write fd text);split;all_goals (rename_i e;rw[e]at h)
 all_goals repeat' split
 all_goals exact h
theorem xY(fr:Frame)(m:String)(w:World):w.drawn≤(gW (endThrow fr m w)).drawn:=ao _
theorem qD(p:Program)(fr:Frame)(v:Value)(w:World):w.drawn≤(gW (endPrinting p fr v w)).drawn:=by
 unfold endPrinting;simp only[]
 repeat' split
 all_goals exact ao _
theorem xU(p:Program)(fr:Frame)(cs:List Frame)(d:Option Dying)(m:String)(w:World):w.drawn≤(gW (endFatal p fr cs d m w)).drawn:=by
 unfold endFatal;simp only[];split;all_goals (rename_i e;exact cF e)
theorem HP(p:Program)(fr:Frame)(d:Dying)(f:Fatal)(w:World):w.drawn≤(gW (writeOn p fr d f w)).drawn:=by
 unfold writeOn;split
 ·exact ao _
 ·simp only[];split;all_goals (rename_i e;exact S4 e)
theorem XQ(p:Program)(fr:Frame)(d:Dying)(w:World):w.drawn≤(gW (die p fr d w)).drawn:=by
 unfold die;split
 ·grind[HP]
 ·split
  ·split
   ·exact ao _
   grind[JU]
  ·simp only[];split
   ·exact ao _
   ·split;all_goals (rename_i e;exact cF e)
   ·rw[lh];split;all_goals first|(rename_i e;exact cF ((Sem.runT_fst ..).symm.trans e))|skip
    ·rename_i e;exact bT (cF ((Sem.runT_fst ..).symm.trans e)) (qD ..)
    ·exact ao _
   ·exact ao _
theorem qF(p:Program)(main:Bool)(fr:Frame)(cs:List Frame)(d:Option Dying)(v:Value)(w:World):w.drawn≤(gW (doReturn p main fr cs d v w)).drawn:=by
 unfold doReturn
 repeat' split
 all_goals exact ao _
theorem sR{c:Prop}[Decidable c]{a b:GStep}{n:Nat}(h1:n≤(gW a).drawn)(h2:n≤(gW b).drawn):n≤(gW (if c then a else b)).drawn:=by grind
theorem xu(p:Program)(fr:Frame)(cs:List Frame)(dy:Option Dying)(d:Deferred)(w:World):w.drawn≤(gW (callDeferred p fr cs dy d w)).drawn:=by
 unfold callDeferred;refine sR ?_ ?_
 ·exact ao _
 ·simp only[];rw[lh];split;all_goals (rename_i e;have h:=cF ((Sem.runT_fst ..).symm.trans e))
  all_goals first|exact h|exact bT h (xU ..)|((repeat' split)<;>exact h)
theorem L5(p:Program)(main:Bool)(fr:Frame)(cs:List Frame)(dy:Option Dying)(w:World):w.drawn≤(gW (unwind p main fr cs dy w)).drawn:=by
 unfold unwind;split
 ·simp only[];rw[lh];split;all_goals (rename_i e;exact cF ((Sem.runT_fst ..).symm.trans e))
 ·grind[xu]
 ·split
  ·exact ao _
  ·split
   ·exact ao _
   ·split
    ·exact ao _
    ·split
     ·split
      ·exact ao _
      ·split;all_goals (rename_i e;exact cF e)
     ·split
      ·grind[qD]
      ·exact ao _
  ·split
   ·grind[qF]
   ·simp only[];rw[lh];split;all_goals (rename_i e;have h:=cF ((Sem.runT_fst ..).symm.trans e))
    all_goals first|exact h|exact bT h (qF ..)
theorem Ry(p:Program)(fr:Frame)(cs:List Frame)(dy:Option Dying)(g:Nat)(w:World):w.drawn≤(gW (early p fr cs dy g w)).drawn:=by
 unfold early;simp only[]
 repeat' split
 all_goals first|exact ao _|(rename_i e;exact cF e)|(rename_i e _;exact cF e)|(rename_i e _ _;exact cF e)|(rename_i e _ _ _ _;exact cF e)
theorem uT(p:Program)(listen:Bool)(fr:Frame)(cs:List Frame)(dy:Option Dying)(s:Sem Next)(w:World):w.drawn≤(gW (stepG.apply p listen fr cs dy s w)).drawn:=by
 unfold stepG.apply;simp only[];rw[lh];have h0:w.drawn≤(S7 (if listen=true then Sem.runT p s w #[]else(Sem.run p s w,#[])).fst).drawn:=by
  cases listen
  ·grind[Px]
  ·exact cF (Sem.runT_fst ..).symm
 generalize (if listen=true then Sem.runT p s w #[]else(Sem.run p s w,#[])).fst=r at h0 ⊢;split;all_goals first|exact h0|exact bT h0 (xU ..)|exact bT h0 (Ry ..)|exact bT h0 (xY ..)|skip
 all_goals repeat' split
 all_goals first|exact h0|exact bT h0 (xY ..)|skip
theorem Tw(p:Program)(listen:Bool)(fr:Frame)(cs:List Frame)(dy:Option Dying)(w:World):w.drawn≤(gW (stepG.oper p listen fr cs dy w)).drawn:=by
 unfold stepG.oper;split
 ·exact ao _
 ·split;all_goals exact uT ..
theorem Ud(p:Program)(main listen:Bool)(fr:Frame)(cs:List Frame)(dy:Option Dying)(w:World):w.drawn≤(gW (stepG.exec p main listen fr cs dy w)).drawn:=by
 have lv:∀(l:Nat)(jump:Option Code),w.drawn≤(gW (GStep.after (seen p fr.fn ((Instr.endRound l jump).runT p w #[]).snd) (match((Instr.endRound l jump).runT p w #[]).fst with| .ok v w=>doReturn p main fr cs dy v w| .halt _ w=>.ended (.stuck "range over a function: no such loop" (fr.pos p)) w))).drawn :=by
  intro l jump;rw[lh];have h0:=cF (Sem.runT_fst p (Instr.endRound l jump) w #[]).symm;split;all_goals (rename_i e;rw[e]at h0)
  ·exact bT h0 (qF ..)
  ·exact h0
 unfold stepG.exec;simp only[];split;all_goals first|exact ao _|exact uT .. |skip
 ·split
  ·exact sR (ao _) (ao _)
  grind
 ·split
  ·exact sR (ao _) (ao _)
  grind
 ·split<;>exact ao _
 ·rename_i id k _;cases exitTo id k with
  |none=>simp only[Option.elim];split;exact sR (ao _) (ao _);grind
  |some k'=>exact ao _
 ·rename_i id k _;cases gotoIn id k with
  |none=>simp only[Option.elim];split;exact sR (ao _) (ao _);grind
  |some k'=>exact ao _
 ·rw[lh];split
  ·rename_i e;exact bT (cF ((Sem.runT_fst ..).symm.trans e)) (uT ..)
  ·rename_i e;exact cF ((Sem.runT_fst ..).symm.trans e)
 ·rw[lh];split<;>rename_i e<;>exact cF ((Sem.runT_fst ..).symm.trans e)
 ·rename_i row _ _ _;cases Extern.next row with
  |none=>exact ao _
  |some e=>grind[uT]
 ·refine sR (ao _) ?_;split<;>rename_i e<;>exact cF e
 ·exact sR (Tw ..) (ao _)
theorem O6(p:Program)(main listen:Bool)(g:Goroutine)(w:World):w.drawn≤(gW (stepG p main g w listen)).drawn:=by
 unfold stepG;grind[XQ,Ud,L5]
def sD(n:Nat):Stepped→Prop
 | .next m=>n≤m.world.drawn
 | .ended _ _=>True
theorem sD.trans{n k:Nat}{s:Stepped}(h:n≤k)(g:sD k s):sD n s:=by
 cases s with
 |next m=>exact bT h g
 |ended o w=>trivial
theorem Qa{c:Prop}[Decidable c]{a b:Stepped}{n:Nat}(h1:sD n a)(h2:sD n b):sD n (if c then a else b):=by grind
theorem KT(p:Program)(gs:Array Goroutine)(rest:Rest)(w:World):sD w.drawn (look p gs rest w):=by
 unfold look;simp only[];split
 ·refine Qa trivial ?_;split
  ·trivial
  ·split<;>rename_i e<;>first|exact cF e|trivial
 ·trivial
theorem xh{rest:Rest}{cases:Array CommCase}{w w':World}(h:waitingAt rest cases w=some w'):w'.drawn=w.drawn:=by
 unfold waitingAt at h
 repeat' split at h
 all_goals first|(cases h;done)|(cases h;rfl)
theorem DM{c:Prop}[Decidable c]{a b:Stepped×Array MemOp}{n:Nat}(h1:sD n a.1)(h2:sD n b.1):sD n (if c then a else b).1:=by grind
theorem Au(p:Program)(rest:Rest)(gs:Array Goroutine)(i:Nat)(g:Goroutine)(cs:Array CommCase)(bl:Bool)(sh:CommShape)(w:World):sD w.drawn (communicate p rest gs i g cs bl sh w).1:=by
 unfold communicate;simp only[];refine DM trivial (DM (DM ?_ (ao _)) ?_)
 ·split
  ·rename_i e;exact rN (xh e).symm
  ·trivial
 ·split
  ·trivial
  ·rename_i w1 e;have h:w.drawn≤w1.drawn:=cF e;clear e;split
   ·split
    ·rename_i e;exact bT h (cF e)
    ·trivial
   ·exact h
   ·exact h
   ·split
    ·exact h
    ·split
     ·rename_i e;exact bT h (cF e)
     ·trivial
   ·exact h
   ·exact h
   ·trivial
theorem PU(p:Program)(m:Machine)(k:Nat):sD m.world.drawn (serve p m k):=by
 unfold serve;split
 ·trivial
 ·exact ao _
 ·simp only[];split
  ·trivial
  ·exact ao _
theorem Bq{m m':Machine}{op:TimerOp}{v:Value}(h:timerOp m op=.ok (v,m')):m'.world.drawn=m.world.drawn:=by
 have rt:∀(m:Machine)(k:Nat)(t:Timer)(a b:Nat),(retime m k t a b).2.world.drawn=m.world.drawn:=by
  intro m k t a b;unfold retime drain;grind
 cases op with
 |new t=>
  simp only[timerOp]at h
  repeat' split at h
  all_goals first|(cases h;done)|(cases h;rfl)
 |stop var=>
  simp only[timerOp,timerOp.named]at h;grind
 | reset var a b=>
  simp only[timerOp,timerOp.named,timerOp.opened]at h;split at h
  ·rename_i e;have e2:∀m2:Machine,(if waitedFor m var=true then match Kernel.withPoller m.world.os with| .ok os=>some {m with world:={m.world with os}}| .error _=>none else some m)=some m2→m2.world.drawn=m.world.drawn:=by
    intro m2 e
    repeat' split at e
    all_goals first|(cases e;done)|(cases e;rfl)
   grind
  ·grind
 |deadline a b c d=>simp only[timerOp]at h;cases h;rfl
theorem S3(p:Program)(m:Machine)(i:Nat)(b:Bool):sD m.world.drawn (runT p m i b).1:=by
 unfold runT;simp only[];have h:=O6 p (i==0) b (m.gs.swapAt! i {(default:Goroutine)with status:=.finished}).1 m.world;generalize stepG p (i==0) (m.gs.swapAt! i {(default:Goroutine)with status:=.finished}).1 m.world b=s at h ⊢;cases s
 all_goals simp only[]
 all_goals try exact h
 all_goals try trivial
 ·exact sD.trans h (Au ..)
 ·exact Qa trivial h
 ·split
  ·rename_i e;exact bT h (rN (Bq e).symm)
  ·split
   ·rename_i e;cases e;exact h
   ·trivial
  ·trivial
  ·trivial
 ·split
  ·exact h
  ·split
   ·rename_i e;cases e;exact h
   ·trivial
  ·trivial
 ·exact sD.trans h (KT ..)
def Oz(n:Nat):Move→Prop
 | .goroutine m _=>n≤m.world.drawn
 | .machine s _=>sD n s
theorem Oz.trans{n k:Nat}{s:Move}(h:n≤k)(g:Oz k s):Oz n s:=by
 cases s with
 |goroutine m i=>exact bT h g
 |machine s o=>exact sD.trans h g
theorem AR(p:Program)(m:Machine):Oz m.world.drawn (askOn p m):=by
 have pick:∀(m:Machine)(rs:List Nat),Oz m.world.drawn (match(choose (.sched rs.length)).run p m.world with
   | .halt _ w=>.machine (.ended (.stuck "sched" "") w)
   | .ok k world=>
    if rs.length≤1 then .goroutine {m with world} (rs.getD k 0)else
    match(choose (.extern "sched.slice" 65536)).run p world with
    | .halt _ w=>.machine (.ended (.stuck "sched.slice" "") w)
    | .ok n world=>.goroutine {m with world,rest:={m.rest with slice:=if n=0 then none else some (rs.getD k 0,n)}} (rs.getD k 0)):=by
  intro m rs;split
  ·trivial
  ·rename_i w1 e;have h:m.world.drawn≤w1.drawn:=cF e;split
   ·exact h
   ·split
    ·trivial
    ·rename_i e;exact bT h (cF e)
 unfold askOn;simp only[];split
 ·trivial
 ·rename_i k w1 e;have h:m.world.drawn≤w1.drawn:=cF e;clear e;split
  ·exact sD.trans h (PU p {m with world:=w1} _)
  ·split
   ·split
    ·exact h
    ·split
     ·exact h
     ·split<;>trivial
   ·split
    ·exact Oz.trans h (pick {m with world:=w1} _)
    ·split
     ·trivial
     ·rename_i w2 e;exact Oz.trans (bT h (cF e)) (pick {m with world:=w2} _)
     ·rename_i e;exact bT h (cF e)
     ·rename_i k2 w2 e;exact Oz.trans (bT h (cF e)) (pick (Machine.advanceTo {m with world:=w2} _) _)
theorem LF(p:Program)(m:Machine):Oz m.world.drawn (ask p m):=by
 unfold ask;split
 ·split
  ·trivial
  ·rename_i w1 e;have h:m.world.drawn≤w1.drawn:=cF e;have h2:=KT p m.gs m.rest w1;split
   ·rename_i e2;rw[e2]at h2;exact Oz.trans (bT h h2) (AR ..)
   ·exact sD.trans h h2
  ·rename_i w1 _ e;have h:m.world.drawn≤w1.drawn:=cF e;exact Oz.trans h (AR p {m with world:=w1})
 grind[AR]
theorem Tf(p:Program)(m:Machine):Oz m.world.drawn (move p m):=by
 unfold move;split
 ·split
  ·exact ao _
  ·trivial
 ·split
  ·split
   ·exact ao _
   ·exact LF p {m with rest:={m.rest with slice:=none}}
  grind[LF]
theorem td(p:Program)(m:Machine):sD m.world.drawn (step p m):=by
 unfold step stepT;have h:=Tf p m;split
 ·rename_i e;rw[e]at h;exact sD.trans h (S3 ..)
 ·rename_i e;rw[e]at h;exact h
theorem KX(p:Program):∀(n:Nat)(m m':Machine),runN p n m=.next m'→m.world.drawn≤m'.world.drawn
 |0,m,m',h=>by cases h;omega
 |n+1,m,m',h=>by
  rw[runN]at h;have h1:=td p m;split at h
  ·rename_i e;rw[e]at h1;exact bT h1 (KX p n _ _ h)
  simp_all
theorem O5{p:Program}{m m':Machine}(h:Steps p m m'):m.world.drawn≤m'.world.drawn:=by
 obtain⟨n,h⟩:=h;exact KX p n m m' h
theorem Hg{p:Program}{f:FuncId}{args:Array Value}{w:World}{R:Ending→World→Prop}(h:Calls p f args w R):Calls p f args w fun e w'=>R e w'∧((∃v,e=.returned v)→w.drawn≤w'.drawn):=by
 intro cs;obtain⟨e,w',fr,h1,h2,h3,h4⟩:=h cs;refine⟨e,w',fr,⟨h1,?_⟩,h2,h3,h4⟩
 rintro⟨v,rfl⟩
 exact O5 (m:=lone _ cs w) (m':=lone fr cs w') h2
end Go.Ev
namespace Go.Ev
open Go Go.RowKit
section
variable{P:Program}{G:eA}{pl:Pl}{M:dr}{h:AHeap}{w w':World}{f:FuncId}{args:List AV}{v:AV}
theorem cM.below(hr:cM pl M h w)(hb:Below w.heap.size w w'):cM pl M h w':=
 ⟨hr.dom,fun id p o h1 h2=>by rw[hb.block _ (hr.blk id p h1)];exact hr.obj id p o h1 h2,fun id p h1=>EM (hr.blk id p h1) hb.size,hr.inj,
  fun b c h1=>by rw[hb.block _ (hr.memLt h1)];exact hr.imm b c h1,hr.sep⟩
theorem dZ.below(hb:Below w.heap.size w w')(hd:w.drawn≤w'.drawn):dZ h pl M w h pl M w':=⟨ng.refl _,fun _ _ h=>h,fun _ _ h=>h,hb.size,fun b h1 _=>hb.block b h1,fun id p h=>.inl ⟨p,h,rfl⟩,fun _ _ _ h=>h,fun _ _ h _=>h,fun _ _ h=>.inl h,hb.os,hb.tape,hb.output,hd⟩
theorem aR.below(hE:∀vs w,(callFunc f vs).run P w=.ok (.enter f vs) w)
  (hC:∀(pl:Pl)(M:dr)(w:World)(vs:Array Value)(h:AHeap),pp G pl M→cM pl M h w→VRels pl M args vs→∃cv,VRel pl M v cv∧Calls P f vs w fun e w'=>e=.returned cv∧Below w.heap.size w w'):aR P G f args v:=by
 intro h pl M w vs hG hr hv;obtain⟨cv,h1,h2⟩:=hC pl M w vs h hG hr hv;refine .inl ⟨hE _ _,Calls.mono (Hg h2) fun e w' ⟨⟨he,hb⟩,hd⟩=>?_⟩;exact⟨cv,v,h,he,⟨rfl,rfl⟩,pl,M,h1,hr.below hb,dZ.below hb (hd ⟨_,he⟩),ao _⟩
theorem aR.calls(hGT:iT G)(hE:∀vs w,(callFunc f vs).run P w=.ok (.enter f vs) w)(hp:aR P G f args v)(hG:pp G pl M)(hr:cM pl M h w){vs:Array Value}(hv:VRels (fun _=>none) M args vs):
  Calls P f vs w fun e w'=>(∃cv pl' M',e=.returned cv∧VRel pl' M' v cv)∧Below w.heap.size w w'∧w.drawn≤w'.drawn:=by
 have r0:cM (fun _=>none) M AHeap.none w:=⟨fun _ _ h=>(by grind),fun _ _ _ h _=>(by grind),fun _ _ h=>(by grind),fun _ _ _ _ h _ _=>(by grind),hr.imm,fun _ _ h=>(by grind)⟩
 rcases hp AHeap.none (fun _=>none) M w vs (hG.none hGT) r0 hv with⟨_,h2⟩|⟨cv,w1,v1,h1,e1,_,_⟩
 ·refine Calls.mono h2 fun e w' ⟨cv,v1,h1,he,⟨e1,e2⟩,pl',M',g1,g2,g3,_⟩=>?_
  subst e1;exact⟨⟨cv,pl',M',he,g1⟩,⟨g3.os,g3.tape,g3.out,g3.size,fun b hb=>g3.kept b hb fun id p h=>(by grind)⟩,g3.drawn⟩
 ·grind
end
end Go.Ev
namespace Go.Ev
open Go
def Qn(lo hi:Int)(c:UInt8):Bool:=ax (aC (.ofNat c.toNat) lo||aC hi (.ofNat c.toNat))
abbrev kn:UInt8→Bool:=Qn 48 57
abbrev XU:UInt8→Bool:=Qn 65 90
def ed(p:UInt8→Bool)(s:aT):Nat:=(s.takeWhile p).length
section
variable{p:UInt8→Bool}{s:aT}
theorem KW:ed p s≤s.length:=(List.takeWhile_prefix p).length_le
theorem KJ:∀{s:aT}{i:Nat},i<ed p s→p (gD s i)=true
 |[],i,h=>by simp_all[ed]
 | c::r,i,h=>by
  cases hc:p c with
  |false=>simp_all[ed]
  |true=>
   cases i with
   |zero=>exact hc
   |succ i=>exact KJ (s:=r) (by simp_all[ed])
theorem Fi:∀{s:aT},ed p s<s.length→p (gD s (ed p s))=false
 |[],h=>by simp_all
 | c::r,h=>by
  cases hc:p c with
  |false=>simp[ed,hc,gD]
  |true=>
   have h2:ed p r<r.length:=by simp_all[ed]
   have:=Fi (s:=r) h2;simp_all[ed,gD]
theorem ve:∀{s:aT},ed p s=s.length↔s.all p=true
 |[]=>by simp[ed]
 |c::r=>by
  have ih:ed p r=r.length↔r.all p=true:=ve;cases hc:p c with
  |false=>simp[ed,hc]
  |true=>simp_all[ed]
end
theorem Wr{lo hi:Int}{c:UInt8}(h1:aC hi (.ofNat c.toNat)=true):Qn lo hi c=false:=by grind[Qn]
def ky(s:aT):Bool:=ax (aC (.ofNat (s.take (ed kn s)).length) 1)&&(ax (aC 4 (.ofNat (s.take (ed kn s)).length))&&(ax (ah (.ofNat (gD (s.take (ed kn s)) 0).toNat) 48)&&(ax (aC 3 (.ofNat (s.drop (ed kn s)).length))&&(s.drop (ed kn s)).all XU)))
def rO(s:aT):Bool:=ax (aC (.ofNat s.length) 1)&&(ax (aC 24 (.ofNat s.length))&&s.all (Qn 33 126))
def qb(l:List aT):Bool:=ax (aC 256 (.ofNat l.length))&&l.all rO
theorem DG:({data:=#[]}:ByteArray).data.toList=([]:List UInt8):=rfl
theorem Rk(s:aT):aC (.ofNat s.length) 1=eX s []:=by cases s<;>rfl
def dE{α:Type}(p:α→Bool):List α→Nat→Int
 |[],_=> -1
 |x::r,i=>bif p x then Int.ofNat i else dE p r (i+1)
theorem lg{α:Type}(p:α→Bool):∀(l:List α)(i:Nat),aC (dE p l i) 0=ax (l.any p)
 |[],_=>rfl
 |x::r,i=>by
  unfold dE;rw[jV];cases h:p x with
  |true=>rfl
  |false=>simp_all[lg]
section
variable{α:Type}{p:α→Bool}{l x r:List α}{w:α}{j:Nat}
theorem ot(h1:l.drop j=x)(h2:x=w::r):l.length-(w::r).length=j∧l.length-r.length=j+1:=by grind
theorem my(h1:l.drop j=x)(h2:x=w::r)(h3:dE p l 0=dE p (w::r) (l.length-(w::r).length))(h4:p w=true):dE p l 0=Int.ofNat j:=by rw[h3,(ot h1 h2).1,dE,h4];rfl
theorem ke(h1:l.drop j=x)(h2:x=w::r)(h3:dE p l 0=dE p (w::r) (l.length-(w::r).length))(h4:p w=false):dE p l 0=dE p r (l.length-r.length):=by rw[h3,(ot h1 h2).1,(ot h1 h2).2,dE,h4];rfl
end
def nw(s:PStep):Bool:=ah s.kind 0&&eX s.label []
def tg(s:PStep):Bool:=aC 0 s.kind&&(ax (aC 7 s.kind)&&ky s.label)
def OQ:List PStep→Bool
 |[]=>true
 |s::r=>(nw s||tg s)&&r.all tg
def kI(p:List PStep):Bool:=OQ p&&ax (aC 9 (.ofNat p.length))
def HC(p r:List PStep):Bool:=bif Nat.beq r.length p.length then OQ r else r.all tg
theorem N9{p:List PStep}:OQ p=HC p p:=by simp_all[HC]
theorem U6{p:List PStep}:HC p []=true:=by unfold HC;cases Nat.beq ([]:List PStep).length p.length<;>rfl
theorem Em{p x r:List PStep}{w:PStep}{j:Nat}(h1:p.drop j=x)(h2:x=w::r)(h3:OQ p=HC p (w::r)):OQ p=((bif ah (Int.ofNat j) 0 then(nw w||tg w)else tg w)&&HC p r):=by
 obtain⟨e1,e2⟩:=ot h1 h2;have e3:=congrArg List.length (h1.trans h2);simp only[tV,cT]at e1 e2 e3;have f1:Nat.beq r.length p.length=false:=by cases h:Nat.beq r.length p.length with|false=>rfl|true=>grind[Nat.eq_of_beq_eq_true]
 rw[h3];unfold HC;rw[f1];cases j with
 |zero=>
  have f2:Nat.beq (w::r).length p.length=true:=by simp_all
  rw[f2];rfl
 |succ j=>
  have f2:Nat.beq (w::r).length p.length=false:=by cases h:Nat.beq (w::r).length p.length with|false=>rfl|true=>simp_all
  rw[f2];rfl
def dX:Int→aT
 |0=>[98,111,111,107]
 |1=>[112,97,114,116]
 |2=>[115,101,99,116,105,111,110]
 |3=>[112,97,114,97,103,114,97,112,104]
 |4=>[116,97,98,108,101]
 |5=>[114,111,119]
 |6=>[99,101,108,108]
 |7=>[110,111,116,101]
 |_=>[]
def H7:Int→List Int
 |0=>[1,2]
 |1=>[2]
 |2=>[3,4,7]
 |3=>[3,4,7]
 |4=>[5]
 |5=>[6]
 |_=>[]
def jk(p k:Int):Bool:=(H7 p).any (ah k)
theorem IG{k:Int}(h:k<0∨7<k):dX k=[]:=by
 unfold dX;grind
theorem H6{k:Int}(h:k<0∨7<k):H7 k=[]:=by
 unfold H7;grind
end Go.Ev
namespace Go.Ev
open Go Go.RowKit Go.Proofs
structure ClassOf(p:UInt8→Bool)(q:Nat→Bool):Prop where
 low:∀c:UInt8,c.toNat<128→q c.toNat=ax (p c)
 high:∀n,128≤n→q n=true
 none:∀c:UInt8,128≤c.toNat→p c=false
theorem Uz{s:aT}{i:Nat}(h:i<s.length)(h2:i<ByteArray.size ⟨⟨s⟩⟩):(ByteArray.mk ⟨s⟩)[i]'h2=gD s i:=by
 simp[gD,List.getD,lx h];rfl
theorem ud{p:UInt8→Bool}{q:Nat→Bool}(hc:ClassOf p q)(s:aT):∀(f pos:Nat),pos≤ed p s→s.length≤pos+f→Lib.idxFuncFrom q true ⟨⟨s⟩⟩ f pos=(bif Nat.beq (ed p s) s.length then -1 else Int.ofNat (ed p s))
 | f,pos,h1,h2=>by
  have hl:=KW (p:=p) (s:=s);have hsz:ByteArray.size ⟨⟨s⟩⟩=s.length:=rfl;by_cases he:pos<s.length
  ·cases f with
   |zero=>omega
   | succ f=>
    unfold Lib.idxFuncFrom;rw[hsz,if_pos he];have hb:=Uz he (by rw[hsz];exact he);by_cases hr:pos<ed p s
    ·have hp:=KJ hr;have ha:(gD s pos).toNat<128:=by
      rcases fy (gD s pos).toNat 128 with h|h
      ·exact h
      ·rw[hc.none _ h]at hp;cases hp
     rw[decode_ascii _ pos (by rw[hsz];exact he) (by rw[hb];exact ha),hb];rw[if_neg (by rw[hc.low _ ha,hp];decide)];exact ud hc s f (pos+1) hr (by omega)
    ·have e:ed p s=pos:=by omega
     have hp:=Fi (p:=p) (s:=s) (by omega);rw[e]at hp;have hq:q (Utf8.decode ⟨⟨s⟩⟩ pos).1=true:=by
      rcases fy (gD s pos).toNat 128 with h|h
      ·rw[decode_ascii _ pos (by rw[hsz];exact he) (by rw[hb];exact h),hb,hc.low _ h,hp];rfl
      ·exact hc.high _ (decode_high _ pos (by rw[hsz];exact he) (by rw[hb];exact h)).1
     rw[if_pos hq,e];have f1:Nat.beq pos s.length=false:=by cases h:Nat.beq pos s.length with|false=>rfl|true=>have:=pu h;omega
     rw[f1];rfl
  ·have e:ed p s=s.length:=by omega
   rw[Lib.idxFuncFrom_end _ _ _ _ _ (by rw[hsz];exact he),e,qZ];rfl
theorem wT{p:UInt8→Bool}{q:Nat→Bool}(hc:ClassOf p q)(s:aT):Lib.idxFunc q true ⟨⟨s⟩⟩=(bif Nat.beq (ed p s) s.length then -1 else Int.ofNat (ed p s)):=ud hc s _ 0 (bN _) (by show s.length≤0+s.length;omega)
section
variable{P:Program}{G:eA}{f g:FuncId}
theorem Cz{pl:Pl}{M:dr}{w:World}{h:AHeap}(hGT:iT G)(hg2:∀args w,(callFunc g args).run P w=.ok (.enter g args) w){q:Nat→Bool}{qI:Int→Bool}(hp:∀r:Int,aR P G g [.int .i32 r] (.bool (qI r)))(hq:∀n:Nat,qI (.ofNat n)=q n)
  (hG:pp G pl M)(hr:cM pl M h w):PredGrows P g #[] q w:=by
 intro W x _ hb;refine Calls.mono (aR.calls hGT hg2 (hp (.ofNat x)) hG (hr.below hb) (vs:=#[.int .i32 (.ofNat x)]) ⟨rfl,fun j y hj=>?_⟩) fun e w' ⟨⟨cv,pl',M',he,hv⟩,hb',_⟩=>?_
 ·cases j with
  |zero=>simp at hj;subst hj;exact .int _ _
  |succ j=>simp_all
 grind[cases VRel]
theorem zS(hGT:iT G)(hE:∀vs w,(callFunc f vs).run P w=.ok (.enter f vs) w)(hg2:∀args w,(callFunc g args).run P w=.ok (.enter g args) w){q:Nat→Bool}{qI:Int→Bool}
  (hC:∀(s:ByteArray)(w:World),PredGrows P g #[] q w→Calls P f #[.string s,.func (.func g) #[] #[]] w fun e w'=>e=.returned (.int .i64 (Lib.idxFunc q true s))∧Below w.heap.size w w')
  (hp:∀r:Int,aR P G g [.int .i32 r] (.bool (qI r)))(hq:∀n:Nat,qI (.ofNat n)=q n){p:UInt8→Bool}(hc:ClassOf p q)(s:aT):
  aR P G f [.str s,.func (.func g) [] []] (.int .i64 (bif Nat.beq (ed p s) s.length then -1 else Int.ofNat (ed p s))):=by
 refine aR.below hE fun pl M w vs h hG hr hv=>?_
 obtain⟨a,b,rfl,hv1,hv2⟩:=A6 hv;have e2:=zX hv2;subst e2;cases hv1
 rw[←wT hc s];exact⟨_,.int _ _,hC ⟨⟨s⟩⟩ w (Cz hGT hg2 hp hq hG hr)⟩
theorem uL(hGT:iT G)(hE:∀vs w,(callFunc f vs).run P w=.ok (.enter f vs) w)(hg2:∀args w,(callFunc g args).run P w=.ok (.enter g args) w){q:Nat→Bool}{qI:Int→Bool}
  (hC:∀(s:ByteArray)(w:World),PredGrows P g #[] q w→Calls P f #[.string s,.func (.func g) #[] #[]] w fun e w'=>e=.returned (.bool (decide (0≤Lib.idxFunc q true s)))∧Below w.heap.size w w')
  (hp:∀r:Int,aR P G g [.int .i32 r] (.bool (qI r)))(hq:∀n:Nat,qI (.ofNat n)=q n){p:UInt8→Bool}(hc:ClassOf p q)(s:aT):
  aR P G f [.str s,.func (.func g) [] []] (.bool (ax (s.all p))):=by
 refine aR.below hE fun pl M w vs h hG hr hv=>?_
 obtain⟨a,b,rfl,hv1,hv2⟩:=A6 hv;have e2:=zX hv2;subst e2;cases hv1
 have e:ax (s.all p)=decide (0≤Lib.idxFunc q true ⟨⟨s⟩⟩):=by
  rw[wT hc s];cases ha:s.all p with
  |true=>rw[(ve (p:=p)).2 ha,qZ];rfl
  | false=>
   have:Nat.beq (ed p s) s.length=false:=by
    cases hb:Nat.beq (ed p s) s.length with
    |false=>rfl
    |true=>grind[ve,Nat.eq_of_beq_eq_true]
   simp_all
 rw[e];exact⟨_,.bool _,hC ⟨⟨s⟩⟩ w (Cz hGT hg2 hp hq hG hr)⟩
end
theorem Ha{lo hi:Nat}(h:hi<128):ClassOf (Qn (Int.ofNat lo) (Int.ofNat hi)) fun n=>aC (Int.ofNat n) (Int.ofNat lo)||aC (Int.ofNat hi) (Int.ofNat n) where
 low c _:=by unfold Qn;simp_all
 high n hn:=by rw[show aC (Int.ofNat hi) (Int.ofNat n)=true from kj (by grind)];simp_all
 none c hn:=Wr (kj (by grind))
end Go.Ev
namespace Go.Ev
open Go Go.RowKit
section
variable{P:Program}{G:eA}{f:FuncId}
theorem H9{pl:Pl}{M:dr}{w:World}{h:AHeap}(hr:cM pl M h w){l:List aT}{a:Addr}{n cap:Nat}(hv:VRel pl M (.ps (l.map nW) false) (.slice (some a) n cap))(hne:l≠[]):
  n=l.length∧n≤cap∧a=⟨a.block,a.off,none⟩∧a.block<w.heap.size∧∀(j:Nat)(x:ByteArray),(l.map fun s=>(⟨⟨s⟩⟩:ByteArray))[j]?=some x→w.cell? ⟨a.block,a.off+j,none⟩=some (.string x):=by
 cases hv with
 | ps hl ht hm hs hc=>
  rename_i sz c;have hne':l.map nW≠[]:=by simp_all
  obtain⟨m1,m2,m3,m4⟩:=hm hne';obtain⟨t,fr,hb⟩:=hr.imm _ _ m2;have hsz:sz=1:=by
   cases l with
   |nil=>simp_all
   |cons s r=>exact((hs (nW s) (by simp)).1).symm
  subst hsz;refine⟨by simp,hl,by rw[←m1],hr.memLt m2,fun j x hj=>?_⟩;rw[qW]at hj;obtain⟨s,e1,rfl⟩:=EI.1 hj;have hlt:j<l.length:=(gi.1 e1).1;have q:=hc j (nW s) 0 (.str s) (by simp_all) rfl;rw[Nat.mul_one,pB]at q;have hin:a.off+j<c.size:=by grind
  have e2:c[a.off+j]?=some (c.getD (a.off+j) undef):=by simp_all
  simp only[World.cell?,hb];simp only[Option.isSome_none,gy,if_false];rw[e2];cases hq:c.getD (a.off+j) undef<;>rw[hq]at q<;>cases q
  rfl
theorem Ny(hE:∀vs w,(callFunc f vs).run P w=.ok (.enter f vs) w)
  (hC:∀(bk o c:Nat)(xs:List ByteArray)(sep:ByteArray)(w:World),(∀(j:Nat) x,xs[j]?=some x→w.cell? ⟨bk,o+j,none⟩=some (.string x))→bk<w.heap.size→xs.length≤140737488355328→xs.length≤c→
   (Lib.join (xs.map (·.data.toList)) sep.data.toList).length≤140737488355328→
   Calls P f #[.slice (some ⟨bk,o,none⟩) xs.length c,.string sep] w fun e w'=>e=.returned (.string ⟨(Lib.join (xs.map (·.data.toList)) sep.data.toList).toArray⟩)∧Below w.heap.size w w')
  (hN:∀(a:Option Addr)(c:Nat)(sep:ByteArray)(w:World),Calls P f #[.slice a 0 c,.string sep] w fun e w'=>e=.returned (.string ⟨#[]⟩)∧w'=w)
  (l:List aT)(sep:aT)(h1:l.length≤140737488355328)(h2:(Lib.join l sep).length≤140737488355328):aR P G f [.ls (l.map nW),.str sep] (.str (Lib.join l sep)):=by
 refine aR.below hE fun pl M w vs h hG hr hv=>?_
 obtain⟨a,b,rfl,hv1,hv2⟩:=A6 hv;cases hv2
 have nil (p:Option Addr) (cap:Nat) (hl:l=[]):∃cv,VRel pl M (.str (Lib.join l sep)) cv∧Calls P f #[.slice p 0 cap,.string ⟨⟨sep⟩⟩] w fun e w'=>e=.returned cv∧Below w.heap.size w w':=by
  subst hl;exact⟨.string ⟨⟨[]⟩⟩,.str _,Calls.mono (hN p cap ⟨⟨sep⟩⟩ w) fun e w' ⟨he,hw⟩=>⟨he,hw▸Below.refl _ _⟩⟩
 generalize hx:l.map nW=xs at hv1;cases hv1 with
 |lsn=>simp_all
 | lsp hp ht=>
  subst hx;by_cases hl:l=[]
  ·subst hl;cases hp with
   |ps=>simp_all
  ·have hp':=hp;cases hp with
   |ps=>
    rename_i a cap sz c _ _ _ _ _;obtain⟨e1,e2,e3,e4,e5⟩:=H9 hr hp' hl;have e6:(l.map fun s=>(⟨⟨s⟩⟩:ByteArray)).map (·.data.toList)=l:=by rw[List.map_map];exact List.map_id l
    have:=hC a.block a.off cap (l.map fun s=>⟨⟨s⟩⟩) ⟨⟨sep⟩⟩ w e5 e4 (by grind) (by grind) (by grind);rw[e6,←e3,cQ,←e1]at this;exact⟨.string ⟨⟨Lib.join l sep⟩⟩,.str _,this⟩
theorem Fo(hE:∀vs w,(callFunc f vs).run P w=.ok (.enter f vs) w)
  (hC:∀(s:ByteArray)(c:Nat)(w:World),c≤9223372036854775807→s.size*c≤140737488355328→Calls P f #[.string s,.int .i64 c] w fun e w'=>e=.returned (.string ⟨(Lib.repeatL s.data.toList c).toArray⟩)∧Below w.heap.size w w')
  (s:aT)(c:Nat)(h1:c≤9223372036854775807)(h2:s.length*c≤140737488355328):aR P G f [.str s,.int .i64 (.ofNat c)] (.str (Lib.repeatL s c)):=by
 refine aR.below hE fun pl M w vs h hG hr hv=>?_
 obtain⟨a,b,rfl,hv1,hv2⟩:=A6 hv;cases hv1;cases hv2
 exact⟨.string ⟨⟨Lib.repeatL s c⟩⟩,.str _,hC ⟨⟨s⟩⟩ c w h1 h2⟩
theorem L6(hE:∀vs w,(callFunc f vs).run P w=.ok (.enter f vs) w)
  (hC:∀(s cs:ByteArray)(w:World),s.size≤9223372036854775807→cs.size<4294967281→(∀(j:Nat) b,cs.data.toList[j]?=some b→b.toNat<128)→
   Calls P f #[.string s,.string cs] w fun e w'=>e=.returned (.string ⟨(Lib.trimS s.data.toList cs.data.toList).toArray⟩)∧Below w.heap.size w w')
  (s cs:aT)(h1:s.length≤9223372036854775807)(h2:cs.length<4294967281)(h3:∀b,b∈cs→b.toNat<128):aR P G f [.str s,.str cs] (.str (Lib.trimS s cs)):=by
 refine aR.below hE fun pl M w vs h hG hr hv=>?_
 obtain⟨a,b,rfl,hv1,hv2⟩:=A6 hv;cases hv1;cases hv2
 exact⟨.string ⟨⟨Lib.trimS s cs⟩⟩,.str _,hC ⟨⟨s⟩⟩ ⟨⟨cs⟩⟩ w h1 h2 fun j b hj=>h3 b (bg hj)⟩
end
end Go.Ev
namespace Go.Ev
open Go
structure PId where
 a:Int
 i:Int
 n:Int
 deriving Inhabited,DecidableEq
noncomputable def aK(p:PId):AV:=.agg [.int .i64 p.a,.int .i64 p.i,.int .i64 p.n]
theorem Jz(p:PId):(aK p).top=0:=rfl
def bq(u:TUnit):PId:=⟨u.act,u.item,u.n⟩
def bj(p q:PId):Bool:=ah p.a q.a&&(ah p.i q.i&&ah p.n q.n)
theorem yz{p q:PId}(h:bj p q=true):p=q:=by
 unfold bj at h;rw[bz,bz]at h;obtain⟨a,b,c⟩:=p;obtain⟨d,e,g⟩:=q;grind[kh]
theorem m8(p:PId):bj p p=true:=by simp[bj,bx]
abbrev fL(p:PId)(u:TUnit):Bool:=bj (bq u) p
theorem IM:KeyOf PId true 3 [(0,1),(1,1),(2,1)] aK bj where
 eq a b:=by
  show xt [.int .i64 a.a,.int .i64 a.i,.int .i64 a.n] [.int .i64 b.a,.int .i64 b.i,.int .i64 b.n] [(0,1),(1,1),(2,1)]=_
  simp only[xt,jt,So,JK,kF,bj];cases h1:ah a.a b.a<;>cases h2:ah a.i b.i<;>cases h3:ah a.n b.n<;>rfl
 t a b h:=yz h
 refl a:=m8 a
 same a:=by simp[aK,mw,jD,jS,kF,bx]
 top a:=rfl
mutual
def nU:TUnit→Nat
 |⟨_,_,_,_,_,_,_,ks⟩=>1+eV ks
def eV:List TUnit→Nat
 |[]=>0
 |k::r=>nU k+eV r
end
mutual
def nJ:TUnit→Nat
 |⟨_,_,_,_,_,_,_,ks⟩=>kG ks
def kG:List TUnit→Nat
 |[]=>0
 |k::r=>Nat.max (1+nJ k) (kG r)
end
mutual
def bu:TUnit→List TUnit
 |⟨x1,x2,x3,x4,x5,x6,x7,ks⟩=>⟨x1,x2,x3,x4,x5,x6,x7,ks⟩::du ks
def du:List TUnit→List TUnit
 |[]=>[]
 |k::r=>bu k++du r
end
mutual
def aG(p:PId):TUnit→List TUnit
 |⟨x1,x2,x3,x4,x5,x6,x7,ks⟩=>bif fL p ⟨x1,x2,x3,x4,x5,x6,x7,ks⟩then[⟨x1,x2,x3,x4,x5,x6,x7,ks⟩]else match cn p ks with
  |[]=>[]
  |y::t=>⟨x1,x2,x3,x4,x5,x6,x7,ks⟩::y::t
def cn(p:PId):List TUnit→List TUnit
 |[]=>[]
 |k::r=>match aG p k with
  |[]=>cn p r
  |y::t=>y::t
end
theorem jq(u:TUnit):nU u=1+eV u.kids:=by cases u;rw[nU];rfl
theorem mq:eV []=0:=by rw[eV]
theorem be(k:TUnit)(r:List TUnit):eV (k::r)=nU k+eV r:=by rw[eV]
theorem Lh(u:TUnit):nJ u=kG u.kids:=by cases u;rw[nJ];rfl
theorem C0:kG []=0:=by rw[kG]
theorem Jy(k:TUnit)(r:List TUnit):kG (k::r)=Nat.max (1+nJ k) (kG r):=by rw[kG]
theorem da(u:TUnit):bu u=u::du u.kids:=by cases u;rw[bu];rfl
theorem fT:du []=[]:=by rw[du]
theorem bO(k:TUnit)(r:List TUnit):du (k::r)=bu k++du r:=by rw[du]
def dj(u:TUnit):List PId:=(bu u).map bq
def ip(l:List TUnit):List PId:=(du l).map bq
theorem nF(u:TUnit):dj u=bq u::ip u.kids:=by unfold dj ip;rw[da];rfl
theorem rk:ip []=[]:=by unfold ip;rw[fT];rfl
theorem gz(k:TUnit)(r:List TUnit):ip (k::r)=dj k++ip r:=by grind[dj,ip,bO]
theorem DB:∀{l:List TUnit}{k:TUnit},k∈l→nU k≤eV l
 |x::r,k,h=>by
  rw[be];rcases fE.1 h with rfl|h
  ·omega
  ·have:=DB h;omega
theorem iH{u k:TUnit}(h:k∈u.kids):nU k<nU u:=by rw[jq u];have:=DB h;omega
theorem Iu(u:TUnit):0<nU u:=by grind[jq]
theorem yX:∀(l:List TUnit),l.length≤eV l
 |[]=>by simp_all
 |k::r=>by
  rw[be,cT];have:=yX r;grind[Iu]
theorem bf(u:TUnit):u.kids.length<nU u:=by grind[jq,yX]
theorem MH{l:List TUnit}(h:∀k,k∈l→(bu k).length=nU k):(du l).length=eV l:=by
 induction l with
 |nil=>rw[fT,mq];rfl
 |cons k r ih=>grind[bO,be]
theorem FC:∀(u:TUnit),(bu u).length=nU u:=TUnit.ind fun u ih=>by grind[da,jq,MH]
theorem ue(u:TUnit):(dj u).length=nU u:=by grind[dj,FC]
theorem Re{l:List TUnit}{n:Nat}(h:∀k,k∈l→1+nJ k≤n):kG l≤n:=by
 induction l with
 |nil=>grind[C0]
 |cons k r ih=>grind[Jy]
theorem EV:∀(u:TUnit),nJ u<nU u:=TUnit.ind fun u ih=>by
 have:kG u.kids≤eV u.kids:=Re fun k hk=>by have:=ih k hk;have:=DB hk;omega
 grind[Lh,jq]
section
variable{p:PId}{u w:TUnit}{r:List TUnit}
theorem gd(u:TUnit):aG p u=bif fL p u then[u]else match cn p u.kids with|[]=>[]|y::t=>u::y::t:=by cases u;rw[aG];rfl
theorem kN:cn p []=[]:=by rw[cn]
theorem oM(k:TUnit)(r:List TUnit):cn p (k::r)=match aG p k with|[]=>cn p r|y::t=>y::t:=by rw[cn]
def bB(p:PId)(u:TUnit):Bool:=ax (aG p u).isEmpty
theorem AZ(h:bB p u=false):aG p u=[]:=by grind[bB]
theorem vN(h:bB p u=true):∃y t,aG p u=y::t:=by
 unfold bB at h;cases e:aG p u with
 |nil=>grind
 |cons x r=>simp_all
theorem lq(h:bB p u=true):aG p u≠[]:=by grind[vN]
theorem qS(h:fL p u=true):aG p u=[u]:=by rw[gd,h];rfl
theorem DS(h:fL p u=true):bB p u=true:=by unfold bB;rw[qS h];rfl
theorem i9(h:bB p w=false):cn p (w::r)=cn p r:=by rw[oM,AZ h]
theorem oJ(h:bB p w=true):cn p (w::r)=aG p w:=by grind[vN,oM]
theorem Oo(h:fL p u=false)(h2:cn p u.kids=cn p []):aG p u=[]:=by rw[gd,h,h2,kN];rfl
theorem Gh(h:fL p u=false)(h2:cn p u.kids=cn p []):bB p u=false:=by unfold bB;rw[Oo h h2];rfl
theorem JG(h:fL p u=false)(h2:cn p u.kids=cn p (w::r))(h3:bB p w=true):aG p u=u::aG p w:=by grind[gd,oJ,vN]
theorem UW(h:fL p u=false)(h2:cn p u.kids=cn p (w::r))(h3:bB p w=true):bB p u=true:=by unfold bB;rw[JG h h2 h3];rfl
end
theorem mY{p:PId}:∀(u:TUnit),(aG p u).length≤nU u:=TUnit.ind fun u ih=>by
 rw[gd];cases fL p u with
 |true=>exact Iu u
 | false=>
  have key:∀(r:List TUnit),(∀k,k∈r→k∈u.kids)→(cn p r).length≤eV r:=by
   intro r;induction r with
   |nil=>grind[kN]
   |cons k r ihr=>grind[oM,be]
  grind[jq]
def bd:TUnit:=⟨0,0,0,0,[],[],[],[]⟩
noncomputable def dA(p:PId)(u:TUnit):TUnit:=bif bB p u then gD (aG p u) ((aG p u).length -1)else bd
theorem JI{p:PId}:∀(u:TUnit)(x:TUnit),x∈aG p u→x∈bu u:=TUnit.ind fun u ih=>by
 intro x hx;rw[gd]at hx;rw[da];cases h:fL p u with
 |true=>simp_all
 | false=>
  rw[h]at hx;simp only[cond_false]at hx;have key:∀(r:List TUnit),(∀k,k∈r→k∈u.kids)→∀x,x∈cn p r→x∈du r:=by
   intro r;induction r with
   |nil=>grind[kN]
   |cons k r ihr=>grind[oM,bO]
  grind
noncomputable def pF(p:Int×aT):AV:=.agg [.int .i64 p.1,.str p.2]
def nQ(a b:Int×aT):Bool:=ah a.1 b.1&&eX a.2 b.2
theorem Ab:∀(s:aT),eX s s=true
 |[]=>rfl
 |c::r=>by simp only[eX,Ab r,Bool.and_true];simp_all
theorem Rj:∀{a b:aT},eX a b=true→a=b
 |[],[],_=>rfl
 |c::r,d::q,h=>by
  simp only[eX,bz]at h;rw[Rj h.2,UInt8.toNat_inj.1 (pu h.1)]
theorem LX:KeyOf (Int×aT) true 2 [(0,1),(1,2)] pF nQ where
 eq a b:=by
  show xt [.int .i64 a.1,.str a.2] [.int .i64 b.1,.str b.2] [(0,1),(1,2)]=_
  simp only[xt,jt,So,JK,kF,nQ];cases h1:ah a.1 b.1<;>cases h2:eX a.2 b.2<;>rfl
 t a b h:=by
  simp only[nQ,bz]at h;grind[kh,Rj]
 refl a:=by simp[nQ,bx,Ab]
 same a:=by simp[pF,mw,jD,jS,kF,bx,Ab]
 top a:=rfl
noncomputable def dw(b:Bool):AV:=.bool b
theorem Ag(b:Bool):(dw b).top=0:=rfl
def Ox{K:Type}(keq:K→K→Bool)(k:K)(l:List (K×Bool)):Bool:=(n8 keq k l).getD false
section
variable{K:Type}{ag:Bool}{sz:Nat}{lv:List (Nat×Nat)}{kenc:K→AV}{keq:K→K→Bool}
theorem F7(hk:KeyOf K ag sz lv kenc keq)(m:List (K×Bool))(k:K):eL (some (.bool false)) false (bc ag sz lv (kenc k) (cW kenc dw m 0) 0)=some (.bool (Ox keq k m)):=by
 rw[zC hk];unfold Ox;cases n8 keq k m with
 |none=>rfl
 |some v=>rfl
theorem JM(hk:KeyOf K ag sz lv kenc keq)(m:List (K×Bool))(k:K):rE (cW kenc dw m 0) m.length (kenc k) (.bool true) (bc ag sz lv (kenc k) (cW kenc dw m 0) 0)=some (cW kenc dw (fF keq k true m) 0,(fF keq k true m).length):=B6 (f:=dw) hk k true m
end
def oI(l:List PWord):Bool:=ax (aC 256 (.ofNat l.length))&&qb (l.map fun w=>w.text)
def mT(pk:Int):List TUnit→List ((Int×aT)×Bool)→Bool
 |[],_=>true
 |k::r,m=>jk pk k.kind&&(ax (Ox nQ (k.kind,k.label) m)&&mT pk r (fF nQ (k.kind,k.label) true m))
def mZ(u:TUnit):Bool:=(bif ah u.kind 0 then eX u.label []&&ax (aC 0 (.ofNat (u.head.length+u.words.length)))else ax (eX (dX u.kind) [])&&(ky u.label&&(oI u.head&&oI u.words)))&&(mT u.kind u.kids []&&ax (aC 64 (.ofNat u.kids.length)))
def wV(q:TUnit→Bool)(u:TUnit):Bool:=(bu u).all q
theorem yw(q:TUnit→Bool)(u:TUnit):wV q u=(q u&&(du u.kids).all q):=by grind[wV,da]
theorem N8(q:TUnit→Bool):(du []).all q=true:=by rw[fT];rfl
theorem BZ(q:TUnit→Bool)(k:TUnit)(r:List TUnit):(du (k::r)).all q=(wV q k&&(du r).all q):=by rw[bO,List.all_append];rfl
def CJ(l:List PId)(m:List (PId×Bool)):List (PId×Bool):=l.foldl (fun m p=>fF bj p true m) m
def b0:PId:=⟨0,0,0⟩
def QA(u:TUnit):Bool:=(Ox bj b0 (CJ (dj u) [])&&ah (.ofNat (CJ (dj u) []).length) 1)||(ah (.ofNat (CJ (dj u) []).length) (.ofNat (dj u).length)&&(ah u.kind 0==fL b0 u))
def kO(u:TUnit):Bool:=wV mZ u&&(ax (aC 8 (.ofNat (nJ u)))&&(ax (aC 1024 (.ofNat (nU u)))&&QA u))
theorem bH{u k:TUnit}(h:k∈u.kids){x:TUnit}(hx:x∈bu k):x∈bu u:=by
 rw[da];refine fk _ ?_;generalize u.kids=l at h;induction l with
 |nil=>grind
 |cons y r ih=>grind[bO]
theorem dh(u:TUnit):u∈bu u:=by grind[da]
theorem LZ{u k:TUnit}(h:k∈u.kids):k∈bu u:=bH h (dh k)
end Go.Ev
namespace Go.Ev
open Go
def cG{α:Type}(q:α→α→Bool):List α→List α→Bool
 |[],[]=>true
 |x::l,y::m=>q x y&&cG q l m
 |_,_=>false
theorem lm{α:Type}{q:α→α→Bool}:∀{l m:List α},l.length≠m.length→cG q l m=false
 |[],[],h=>absurd rfl h
 |[],y::m,_=>rfl
 |x::l,[],_=>rfl
 |x::l,y::m,h=>by
  unfold cG;rw[lm (l:=l) (m:=m) (fun e=>h (by simp[e]))];exact tq _
section
variable{α:Type}[Inhabited α]{q:α→α→Bool}{l m x r:List α}{w:α}{j:Nat}
omit [Inhabited α]in
theorem Aa:cG q l m=cG q l (m.drop (l.length-l.length)):=by simp_all
theorem yx{m:List α}{j:Nat}(h:j<m.length):m.drop j=gD m j::m.drop (j+1):=by grind[List.drop_eq_getElem_cons,gD]
theorem iB(h1:l.drop j=x)(h2:x=w::r)(hl:l.length=m.length)(h3:cG q l m=cG q (w::r) (m.drop (l.length-(w::r).length))):cG q l m=(q w (gD m j)&&cG q r (m.drop (l.length-r.length))):=by
 have e:=congrArg List.length (h1.trans h2);simp only[tV,cT]at e;rw[h3,(ot h1 h2).1,(ot h1 h2).2,yx (by omega),cG]
omit [Inhabited α]in
theorem nX(hl:l.length=m.length)(h3:cG q l m=cG q [] (m.drop (l.length-([]:List α).length))):cG q l m=true:=by rw[h3,gL,Nat.sub_zero,hl,List.drop_length];rfl
end
def CM(a b:PWord):Bool:=eX a.text b.text&&(ah a.act b.act&&(ah a.item b.item&&ah a.at_ b.at_))
mutual
def gg:TUnit→TUnit→Bool
 |⟨a,i,n,k,l,h,w,ks⟩,v=>bj ⟨a,i,n⟩ (bq v)&&(ah k v.kind&&(eX l v.label&&(cG CM h v.head&&(cG CM w v.words&&NC ks v.kids))))
def NC:List TUnit→List TUnit→Bool
 |[],[]=>true
 |k::r,[]=>false
 |k::r,x::s=>gg k x&&NC r s
 |[],x::s=>false
end
theorem RV(u v:TUnit):gg u v=(bj (bq u) (bq v)&&(ah u.kind v.kind&&(eX u.label v.label&&(cG CM u.head v.head&&(cG CM u.words v.words&&cG gg u.kids v.kids))))):=by
 have key:∀(l m:List TUnit),NC l m=cG gg l m:=by
  intro l;induction l with
  |nil=>intro m;cases m<;>(rw[NC];rfl)
  |cons x l ih=>intro m;cases m with|nil=>rw[NC];rfl|cons y m=>rw[NC,ih];rfl
 cases u
 rw[gg,key];rfl
end Go.Ev
namespace Go.Ev
open Go
def HN(u v:AV):Prop:=(Sc v→Sc u)∧Les u.cells v.cells
theorem HN.refl(v:AV):HN v v:=⟨id,Les.refl _⟩
theorem HN.one{u v:AV}(hu:u.cells=[u])(hv:v.cells=[v])(hs:cL u=true)(h:Le u v):HN u v:=⟨fun _ y hy=>by simp_all,by rw[hu,hv];exact .cons h .nil⟩
inductive LesC:List AV→List AV→Prop
 |nil:LesC [] []
 |cons {u v:AV} {us vs:List AV} (h:HN u v) (k:LesC us vs):LesC (u::us) (v::vs)
theorem LesC.len{us vs:List AV}(h:LesC us vs):us.length=vs.length:=by
 induction h with
 |nil=>rfl
 |cons _ _ ih=>simp_all
theorem LesC.at_{us vs:List AV}(h:LesC us vs):∀(j:Nat)(u:AV),us[j]?=some u→∃v,vs[j]?=some v∧HN u v:=by
 induction h with
 |nil=>simp_all
 |cons h k ih=>grind
theorem Eu{xs ys:List AV}{t:Bool}(h:LesC xs ys):Le (.ps xs false) (.ps ys t):=fun pl M v hv=>by
 cases hv with
 | @ps _ _ a cap sz c hl ht hm hs hc=>
  rw[←h.len];refine .ps (sz:=sz) (c:=c) (by rw[h.len];omega) (fun h=>by grind) (fun hx=>?_) (fun x hx=>?_) fun i x j y hx hy=>?_
  ·have:ys≠[]:=fun e=>hx (qJ (by rw[h.len,e];rfl))
   rw[h.len];simp_all
  ·obtain⟨i,hi⟩:=BL hx;obtain⟨y,h1,h2,h3⟩:=h.at_ i x hi;have:=hs y (bg h1);exact⟨h3.len.trans this.1,h2 this.2⟩
  ·obtain⟨z,h1,_,h3⟩:=h.at_ i x hx;obtain⟨d,h4,h5⟩:=h3.at_ j y hy;exact h5 _ _ _ (hc i z j d h1 h4)
theorem Xh{xs ys:List AV}{t:Bool}(h:LesC xs ys)(h0:aq xs=0):Le (.ls xs) (.ps ys t):=fun pl M v hv=>.lsp (Eu h pl M v hv) h0
theorem Xi{xs ys:List AV}(h:LesC xs ys)(h0:aq xs=0):Le (.ls xs) (.ls ys):=fun pl M v hv=>by
 cases hv with
 |lsn=>cases h;exact .lsn
 |lsp hv _=>exact .lsp (Eu h pl M v hv) h0
theorem Le.pls{x:AV}{xs ys:List AV}(h:LesC (x::xs) ys):Le (.ps (x::xs) false) (.ls ys):=fun pl M v hv=>by
 cases hv with
 |lsn=>cases h
 |lsp hv _=>exact Eu h pl M v hv
mutual
def BU:AV→AV→Bool
 | .ls xs,.nils=>xs.isEmpty
 | .ls xs,.ps ys _=>ku xs ys&&Nat.beq (aq xs) 0
 | .ls xs,.ls ys=>ku xs ys&&Nat.beq (aq xs) 0
 | .ps (x::xs) false,.ls ys=>ku (x::xs) ys
 | .ps xs false,.ps ys _=>ku xs ys
 | .agg us,.agg vs=>ku us vs&&us.all cL
 |u,v=>AV.same u v
def ku:List AV→List AV→Bool
 |[],[]=>true
 |a::us,b::vs=>BU a b&&ku us vs
 |_,_=>false
end
theorem HN.same{u v:AV}(h:AV.same u v=true):Le u v∧HN u v:=by grind[AV.same_eq,Le.refl,HN.refl]
mutual
theorem wU:∀(u v:AV),BU u v=true→Le u v∧HN u v:=fun u v h=>by
 unfold BU at h;split at h
 ·rename_i xs;have e:xs=[]:=by simp_all
  subst e;exact⟨Le.nils,HN.one rfl rfl rfl Le.nils⟩
 ·rename_i xs ys t;have h:=oZ.1 h;have k:=Xh (t:=t) (jH xs ys h.1).2 (pu h.2);exact⟨k,HN.one rfl rfl rfl k⟩
 ·rename_i xs ys;have h:=oZ.1 h;have k:=Xi (jH xs ys h.1).2 (pu h.2);exact⟨k,HN.one rfl rfl rfl k⟩
 ·rename_i x xs ys;have k:=Le.pls (jH (x::xs) ys h).2;exact⟨k,HN.one rfl rfl rfl k⟩
 ·rename_i xs ys t;have k:=Eu (t:=t) (jH xs ys h).2;exact⟨k,HN.one rfl rfl rfl k⟩
 ·rename_i us vs;have h:=oZ.1 h;have k:=jH us vs h.1;exact⟨bQ k.1 h.2,fun _ y hy=>mK.1 h.2 y hy,k.1⟩
 ·exact HN.same h
theorem jH:∀(us vs:List AV),ku us vs=true→Les us vs∧LesC us vs:=fun us vs h=>by
 unfold ku at h;split at h
 ·exact⟨.nil,.nil⟩
 ·rename_i a us b vs;have h:=oZ.1 h;have h1:=wU a b h.1;have h2:=jH us vs h.2;exact⟨.cons h1.1 h2.1,.cons h1.2 h2.2⟩
 ·grind
end
section
variable{P:Program}{G:eA}{f:FuncId}{a b:List AV}{u v:AV}
theorem aR.args(h:aR P G f a v)(hl:Les a b):aR P G f b v:=fun hp pl M w vs hg hr hv=>h hp pl M w vs hg hr (hv.le hl)
theorem aR.lessB(h:aR P G f a v)(hl:BU u v=true):aR P G f a u:=h.less (wU _ _ hl).1
theorem Wq(a b:Nat):Ch (.ofNat a) (.ofNat b)=.ofNat (Nat.max a b):=by
 unfold Ch;cases h:aC (.ofNat a) (.ofNat b)with
 |true=>
  have h:=al h;grind
 |false=>
  have h:=aD h;simp_all
theorem m9{xs ys:List AV}{i t:Nat}{r:List (Nat×Nat)}{x y:AV}{e c:Bool}(hx:jt xs i=some x)(hy:jt ys i=some y)(h:JK t x y=some e)(k:xt xs ys r=some c):xt xs ys ((i,t)::r)=some (e&&c):=by
 simp only[xt,hx,hy,So,h];cases e with
 |true=>exact k
 |false=>rfl
theorem Ay{xs ys:List AV}{i t:Nat}{r:List (Nat×Nat)}{x y:AV}{e:Bool}(hx:jt xs i=some x)(hy:jt ys i=some y)(h:JK t x y=some e)(k:xt xs ys r=some true):xt xs ys ((i,t)::r)=some e:=by
 simp only[xt,hx,hy,So,h];cases e with
 |true=>exact k
 |false=>rfl
theorem El{d:Option TypeDesc}{n:Nat}{l:List (Nat×Nat)}{xs ys:List AV}{c:Bool}{H:AHeap}(hn:(Nat.beq xs.length n&&Nat.beq ys.length n)=true)(hl:xt xs ys l=some c):
  ba H (SE (pP .eql d (some true) (some n) (some l)) (some (.agg xs)) (some (.agg ys)))=some (.val (.bool c) H):=by
 grind[SE,pP,W5,o8,ba]
theorem yy{d:Option TypeDesc}{n:Nat}{l:List (Nat×Nat)}{xs ys:List AV}{c:Bool}{H:AHeap}(hn:(Nat.beq xs.length n&&Nat.beq ys.length n)=true)(hl:xt xs ys l=some c):
  ba H (SE (pP .neq d (some true) (some n) (some l)) (some (.agg xs)) (some (.agg ys)))=some (.val (.bool (!c)) H):=by
 grind[SE,pP,W5,o8,ba]
def uf:List (FuncId×List AV×AV)→ZV
 |[],_,_,_=>none
 |x::r,g,b,h=>match Nat.beq g x.1 with
  |true=>(match ku x.2.1 b with|true=>some (x.2.2,h)|false=>uf r g b h)
  |false=>uf r g b h
theorem zT:∀{L:List (FuncId×List AV×AV)}{g:FuncId}{h h1:AHeap}{v1:AV},uf L g b h=some (v1,h1)→∃x,x∈L∧g=x.1∧ku x.2.1 b=true∧v1=x.2.2∧h1=h
 |[],_,_,_,_,e=>by grind[uf]
 | x::r,g,h,h1,v1,e=>by
  unfold uf at e;have next:uf r g b h=some (v1,h1)→∃y,y∈x::r∧g=y.1∧ku y.2.1 b=true∧v1=y.2.2∧h1=h:=fun e=>
   let⟨y,k,q⟩:=zT e
   ⟨y,fk _ k,q⟩
  grind[Nat.eq_of_beq_eq_true]
theorem Gf{C:Cfg}{L:List (FuncId×List AV×AV)}(hC:C.hook=uf L)(hL:∀x,x∈L→aR C.P C.G x.1 x.2.1 x.2.2):Jn C:=fun g b hp v1 h1 e pl M w vs hg hr hv=>by
 rw[hC]at e;obtain⟨x,hx,rfl,hl,rfl,rfl⟩:=zT e;rcases hL x hx h1 pl M w vs hg hr (hv.le (jH _ _ hl).1)with⟨k1,k2⟩|⟨cv,w',v2,h2,k1,⟨rfl,rfl⟩,k3⟩
 ·refine .inl ⟨k1,fun cs=>?_⟩;obtain⟨en,w',fr,⟨cv,v2,h2,e1,⟨rfl,rfl⟩,k3⟩,r⟩:=k2 cs;grind
 ·exact .inr ⟨cv,w',k1,k3⟩
def XO(v:AV):Option (AV×AHeap)→Bool
 |some (u,_)=>BU v u&&Nat.beq u.top 0
 |none=>false
theorem aR.closed{C:Cfg}{k:Nat}(hG:iT C.G)(ev:ca C.P C.G (fO C k))(ht:aq a=0)(h:XO v (fO C k f a AHeap.none)=true):aR C.P C.G f a v:=by
 cases hx:fO C k f a AHeap.none with
 |none=>rw[hx]at h;cases h
 |some r=>
  obtain⟨u,h1⟩:=r;rw[hx]at h;have h:=oZ.1 h;exact(lJ hG ht (pu h.2) ((aH.of ev hx).mono fun v1 _ e=>e.1)).lessB h.1
end
end Go.Ev
namespace Go.Ev
open Go
theorem aR.ls0{P:Program}{G:eA}{f:FuncId}{r:List AV}{v:AV}(h1:aR P G f (.nils::r) v)(h2:aR P G f (.ps [] false::r) v):aR P G f (.ls []::r) v:=fun h=>EC (fun _ _ _ hv=>VRels.first hv fun _ hv=>hv.ls0) (h1 h) (h2 h)
theorem Q8{p:PId}{u:TUnit}(h:bB p u=true):dA p u∈aG p u:=by
 unfold dA;rw[h];have:=pA.2 (lq h);grind[gx]
theorem Sw:∀(u:TUnit),nq u=(bu u).flatMap ni:=by
 refine TUnit.ind fun u ih=>?_
 rw[LL,da,List.flatMap_cons];congr 1;have key:∀(l:List TUnit),(∀k,k∈l→k∈u.kids)→kH l=(du l).flatMap ni:=by
  intro l;induction l with
  |nil=>intro _;rw[DY,fT];rfl
  |cons k r ihr=>grind[tZ,bO]
 simp_all
theorem Ot{p:PId}:∀(u:TUnit),bB p u=true→bq (dA p u)=p:=by
 refine TUnit.ind fun u ih h=>?_
 unfold dA;rw[h];simp only[cond_true];cases hh:fL p u with
 |true=>rw[qS hh];exact yz hh
 | false=>
  have key:∀(r:List TUnit),(∀k,k∈r→k∈u.kids)→cn p r≠[]→bq (gD (cn p r) ((cn p r).length -1))=p:=by
   intro r;induction r with
   |nil=>grind[kN]
   |cons k r ihr=>grind[oJ,dA,i9]
  have k2:=key u.kids fun _ h=>h
  obtain⟨y,t,e⟩:=vN h;rw[gd,hh]at e ⊢;grind[gD]
theorem Lz{p:PId}:∀(u:TUnit),(∃x,x∈bu u∧bq x=p)→bB p u=true:=by
 refine TUnit.ind fun u ih ⟨x,hx,hp⟩=>?_
 cases hh:fL p u with
 |true=>grind[DS]
 | false=>
  rw[da]at hx;rcases fE.1 hx with rfl|hx
  ·simp_all[fL,m8]
  ·have key:∀(l:List TUnit),(∀k,k∈l→k∈u.kids)→x∈du l→cn p l≠[]:=by
    intro l;induction l with
    |nil=>grind[fT]
    |cons k r ihr=>grind[bO,bB,oJ,i9]
   grind[bB,gd]
theorem Cf{α β:Type}{f:α→β}:∀{l:List α},(l.map f).Nodup→∀{x y:α},x∈l→y∈l→f x=f y→x=y
 | a::l,h,x,y,hx,hy,e=>by
  rw[eB,List.nodup_cons]at h;rcases fE.1 hx with h1|h1
  ·grind
  ·rcases fE.1 hy with h2|h2
   ·simp_all
   ·exact Cf h.2 h1 h2 e
theorem CR{K V:Type}{kenc:K→AV}{f:V→AV}:∀(l:List (K×V))(i:Nat),(cW kenc f l i).length=l.length
 |[],_=>rfl
 |(k,v)::r,i=>by rw[cW,cT,CR r,cT]
theorem MU(m:List (PId×Bool)):CJ [] m=m:=rfl
theorem Rx{n:Nat}(h:0<n):ah (Int.ofNat n) 0=false:=by grind[rf]
def CH(p:PId):TUnit→Option TUnit:=fun u=>(bu u).find? (fL p)
theorem Su{p:PId}:∀(u:TUnit),(bB p u=true→CH p u=some (dA p u))∧(bB p u=false→CH p u=none):=by
 refine TUnit.ind fun u ih=>?_
 unfold CH;rw[da];cases hh:fL p u with
 |true=>
  rw[List.find?_cons_of_pos (by omega)];refine⟨fun h=>?_,fun h=>by grind[DS]⟩;unfold dA;rw[h,qS hh];rfl
 | false=>
  rw[List.find?_cons_of_neg (by simp_all)];have key:∀(r:List TUnit),(∀k,k∈r→k∈u.kids)→(cn p r≠[]→(du r).find? (fL p)=some (gD (cn p r) ((cn p r).length -1)))∧(cn p r=[]→(du r).find? (fL p)=none):=by
   intro r;induction r with
   |nil=>grind[kN,fT]
   |cons k r ihr=>
    intro hm;have ik:=ih k (hm k (e9 ..));have ir:=ihr fun z hz=>hm z (fk _ hz)
    rw[bO,List.find?_append];cases hk:bB p k with
    |true=>grind[CH,oJ,lq,dA]
    |false=>grind[CH,i9]
  have k2:=key u.kids fun _ h=>h
  refine⟨fun h=>?_,fun h=>?_⟩
  ·obtain⟨y,t,e⟩:=vN h;unfold dA;rw[h,gd,hh];rw[gd,hh]at e;grind[gD]
  ·have e:=AZ h;grind[gd]
theorem gu(p:PId)(u:TUnit):fL p u=true↔bq u=p:=⟨yz,fun h=>by simp_all[fL,m8]⟩
theorem Ig{y x:TUnit}:∀(u:TUnit),y∈bu u→x∈bu y→x∈bu u:=by
 refine TUnit.ind fun u ih h hx=>?_
 rw[da]at h ⊢;rcases fE.1 h with rfl|h
 ·grind[da]
 ·refine fk _ ?_;have key:∀(l:List TUnit),(∀k,k∈l→k∈u.kids)→y∈du l→x∈du l:=by
   intro l;induction l with
   |nil=>grind[fT]
   |cons k r ihr=>grind[bO]
  simp_all
theorem jX{y x u:TUnit}(h:y∈bu u)(hx:x∈bu y):x∈bu u:=Ig u h hx
theorem Ph{x:TUnit}:∀(u:TUnit),x∈bu u→nU x≤nU u:=by
 refine TUnit.ind fun u ih h=>?_
 rw[da]at h;rcases fE.1 h with rfl|h
 ·omega
 ·have key:∀(l:List TUnit),(∀k,k∈l→k∈u.kids)→x∈du l→nU x<nU u:=by
   intro l;induction l with
   |nil=>grind[fT]
   |cons k r ihr=>grind[bO,Nat.lt_of_le_of_lt,iH]
  grind
theorem dP{x u:TUnit}(h:x∈bu u):nU x≤nU u:=Ph u h
section
variable{p:PId}{u w:TUnit}{r:List TUnit}
end
end Go.Ev
namespace Go.Ev
open Go
def kg(a b:PStep):Bool:=ah a.kind b.kind&&eX a.label b.label
mutual
def EZ:PItem→PItem→Bool
 |⟨k,a,t,w,n,u,o,ne,l,f,s,ac,im,d,e,bs⟩,v=>
  (ah k v.kind&&(ah w v.where_&&(ah n v.nth_&&(ah ac v.act&&(ah im v.item&&ah d v.day)))))
  &&((eX l v.label&&(eX f v.for_&&(eX e v.event&&(ah s.kind v.start.kind&&(ah s.day v.start.day&&eX s.event v.start.event)))))
  &&((cG kg a v.at_&&(cG kg t v.to&&(cG eX o v.old&&cG eX ne v.new)))
  &&(gg u v.unit&&CN bs v.by_)))
def CN:List PItem→List PItem→Bool
 |[],[]=>true
 |k::r,[]=>false
 |k::r,x::s=>EZ k x&&CN r s
 |[],x::s=>false
end
theorem Rz:∀(l m:List PItem),CN l m=cG EZ l m:=by
 intro l;induction l with
 |nil=>intro m;cases m<;>(rw[CN];rfl)
 |cons x l ih=>intro m;cases m with|nil=>rw[CN];rfl|cons y m=>rw[CN,ih];rfl
theorem Ue(u v:PItem):EZ u v=((ah u.kind v.kind&&(ah u.where_ v.where_&&(ah u.nth_ v.nth_&&(ah u.act v.act&&(ah u.item v.item&&ah u.day v.day)))))
  &&((eX u.label v.label&&(eX u.for_ v.for_&&(eX u.event v.event&&(ah u.start.kind v.start.kind&&(ah u.start.day v.start.day&&eX u.start.event v.start.event)))))
  &&((cG kg u.at_ v.at_&&(cG kg u.to v.to&&(cG eX u.old v.old&&cG eX u.new v.new)))
  &&(gg u.unit v.unit&&cG EZ u.by_ v.by_)))):=by
 cases u
 rw[EZ,Rz];rfl
noncomputable def Du(s:aT):Bool:=ax (aC (.ofNat s.length) 1)&&(ax (aC 16 (.ofNat s.length))&&(ax (aC (.ofNat (gD s 0).toNat) 97)&&(ax (aC 122 (.ofNat (gD s 0).toNat))&&eX (Lib.trimS s [97,98,99,100,101,102,103,104,105,106,107,108,109,110,111,112,113,114,115,116,117,118,119,120,121,122,48,49,50,51,52,53,54,55,56,57,45]) [])))
def rn(n:Bool)(s:PStart):Bool:=bif ah s.kind 0||ah s.kind 2 then ah s.day 0&&eX s.event []else bif ah s.kind 1 then(ax (aC s.day 0)&&ax (aC 1048576 s.day))&&eX s.event []else bif ah s.kind 3 then ah s.day 0&&n else false
end Go.Ev
namespace Go.Ev
open Go
def bD(s:PStep)(u:TUnit):Bool:=ah u.kind s.kind&&eX u.label s.label
def gn:List PStep→List TUnit→List TUnit
 |[],l=>l
 |s::r,l=>gn r (l.flatMap fun x=>x.kids.filter (bD s))
def eZ(u:TUnit)(p:List PStep):List TUnit:=bif kI p then(match p with
 |[]=>[u]
 |s::r=>gn r (bif nw s then[u]else(bu u).filter (bD s)))else[]
noncomputable def aF(u:TUnit)(p:List PStep):PId×Int:=match eZ u p with
 |[]=>(b0,7)
 |[x]=>(bq x,0)
 |_=>(b0,8)
def iK(p:PId)(u:TUnit):Bool:=ax (aC (.ofNat (aG p u).length) 2)
noncomputable def H5(p:PId)(u:TUnit):TUnit:=gD (aG p u) ((aG p u).length -2)
noncomputable def rF(p:PId)(u:TUnit):PId:=bif iK p u then bq (H5 p u)else b0
noncomputable def pM(p:PId)(u:TUnit):Int:=bif iK p u then dE (bB p) (H5 p u).kids 0 else -1
def pR(p:PId)(u:TUnit):List PId:=(((aG p u).take ((aG p u).length -1)).map bq).reverse
structure PSpot where
 id:PId
 at_:Int
 deriving Inhabited
noncomputable def fq(s:PSpot):AV:=.agg [.int .i64 s.id.a,.int .i64 s.id.i,.int .i64 s.id.n,.int .i64 s.at_]
def dL:PSpot:=⟨b0,0⟩
noncomputable def nL(u:TUnit)(p:PId)(n:Int):PSpot×Int:=bif iK p u then(⟨rF p u,pM p u+n⟩,0)else(dL,9)
noncomputable def dc(w:Int)(u:TUnit)(p:PId):PSpot×Int:=bif ah w 0 then(⟨p,0⟩,0)else bif ah w 1 then(⟨p,.ofNat (dA p u).kids.length⟩,0)else bif ah w 2 then nL u p 1 else nL u p 0
def iD(n:Int):Bool:=ax (aC n 0)&&ax (aC 3 n)
def cC(act item:Int):List aT→Nat→List PWord
 |[],_=>[]
 |s::r,n=>⟨s,act,item,.ofNat n⟩::cC act item r (n+1)
def b7(l:List PWord):List aT:=l.map fun w=>w.text
theorem f8(a i:Int):∀(l:List aT)(n:Nat),(cC a i l n).length=l.length
 |[],_=>rfl
 |s::r,n=>by rw[cC,cT,f8 a i r,cT]
mutual
def c9(a i:Int):TUnit→Nat→Nat→TUnit
 |⟨_,_,_,k,l,h,ws,ks⟩,n,w=>⟨a,i,.ofNat (n+1),k,l,cC a i (b7 h) w,cC a i (b7 ws) (w+h.length),fW a i ks (n+1) (w+h.length+ws.length)⟩
def fW(a i:Int):List TUnit→Nat→Nat→List TUnit
 |[],_,_=>[]
 |k::r,n,w=>c9 a i k n w::fW a i r (n+nU k) (w+(nq k).length)
end
theorem CX(a i:Int)(u:TUnit)(n w:Nat):c9 a i u n w=⟨a,i,.ofNat (n+1),u.kind,u.label,cC a i (b7 u.head) w,cC a i (b7 u.words) (w+u.head.length),fW a i u.kids (n+1) (w+u.head.length+u.words.length)⟩:=by cases u;rw[c9];rfl
theorem FV(a i:Int)(n w:Nat):fW a i [] n w=[]:=by rw[fW]
theorem Dv(a i:Int)(k:TUnit)(r:List TUnit)(n w:Nat):fW a i (k::r) n w=c9 a i k n w::fW a i r (n+nU k) (w+(nq k).length):=by rw[fW]
def vu(part:List aT):Nat→List aT→Nat→List Nat
 |0,_,_=>[]
 |f+1,l,i=>bif Nat.ble (i+part.length) l.length then(bif cG eX ((l.drop i).take part.length) part then i::vu part f l (i+part.length)else vu part f l (i+1))else[]
def uK(l part:List aT):List Nat:=bif part.isEmpty then[]else vu part (l.length+1) l 0
end Go.Ev
namespace Go.Ev
open Go
def pW(w:PWord):Bool:=ax (ah w.act 0&&(ah w.item 0&&ah w.at_ 0))
def DW(x:TUnit):Bool:=fL b0 x&&(ax (x.head.any pW)&&ax (x.words.any pW))
def Hp(u:TUnit):Bool:=kO u&&wV DW u
def gS(w:PWord):PWord:=⟨w.text,0,0,0⟩
mutual
def cN:TUnit→TUnit
 |⟨_,_,_,k,l,h,w,ks⟩=>⟨0,0,0,k,l,h.map gS,w.map gS,tc ks⟩
def tc:List TUnit→List TUnit
 |[]=>[]
 |k::r=>cN k::tc r
end
theorem yC:∀(l:List TUnit),tc l=l.map cN
 |[]=>by rw[tc];rfl
 |k::r=>by rw[tc,yC r];rfl
theorem md(u:TUnit):cN u=⟨0,0,0,u.kind,u.label,u.head.map gS,u.words.map gS,u.kids.map cN⟩:=by cases u;rw[cN,yC];rfl
theorem QD{p:PId}{u:TUnit}(h:bB p u=false):iK p u=false:=by unfold iK;rw[AZ h];rfl
theorem V8{p:PId}{u:TUnit}(h:iK p u=false):rF p u=b0:=by unfold rF;simp_all
theorem Ps{p:PId}{u:TUnit}(h:iK p u=false):pM p u= -1:=by unfold pM;simp_all
theorem Ih{p:PId}{u:TUnit}(h:iK p u=true):rF p u=bq (H5 p u):=by unfold rF;simp_all
theorem Ii{p:PId}{u:TUnit}(h:iK p u=true):pM p u=dE (bB p) (H5 p u).kids 0:=by unfold pM;simp_all
def oC(p:PId)(u:TUnit)(k:Nat):List PId:=((((aG p u).take ((aG p u).length -1)).drop k).map bq).reverse
theorem Ei(p:PId)(u:TUnit):oC p u 0=pR p u:=rfl
theorem DV(p:PId)(u:TUnit):oC p u ((aG p u).length -1)=[]:=by
 unfold oC;simp_all
theorem BQ(p:PId)(u:TUnit){k:Nat}(h:k+1<(aG p u).length):oC p u k=oC p u (k+1)++[bq (gD (aG p u) k)]:=by
 unfold oC;have h1:k<((aG p u).take ((aG p u).length -1)).length:=by grind
 rw[Oy h1,eB,List.reverse_cons];grind[gD]
theorem DK(p:PId)(u:TUnit)(k:Nat):(oC p u k).length≤(aG p u).length:=by grind[oC]
def lw(s:PStep)(u:TUnit):List TUnit:=(bu u).filter (bD s)
def dx(s:PStep)(l:List TUnit):List TUnit:=(du l).filter (bD s)
theorem zY(s:PStep)(u:TUnit):lw s u=(bif bD s u then[u]else[])++dx s u.kids:=by
 unfold lw dx;rw[da,List.filter_cons];grind
theorem mP(s:PStep):dx s []=[]:=by unfold dx;rw[fT];rfl
theorem gM(s:PStep)(k:TUnit)(r:List TUnit):dx s (k::r)=lw s k++dx s r:=by grind[lw,dx,bO]
theorem mh(s:PStep)(u:TUnit):(lw s u).length≤nU u:=by grind[lw,FC]
theorem sF:∀(l m:List TUnit),eV (l++m)=eV l+eV m
 |[],m=>by rw[mq,ww,fw]
 |x::r,m=>by rw[tz,be,be,sF r m,Nat.add_assoc]
theorem zg(q:TUnit→Bool):∀(l:List TUnit),eV (l.filter q)≤eV l
 |[]=>by simp_all
 |x::r=>by
  rw[List.filter_cons,be];have:=zg q r;cases q x with
  |true=>rw[if_pos rfl,be];omega
  |false=>grind
theorem zf(q:TUnit→Bool):∀(l:List TUnit),eV (l.flatMap fun x=>x.kids.filter q)≤eV l
 |[]=>by simp_all
 |x::r=>by
  rw[List.flatMap_cons,sF,be];have:=zf q r;grind[zg,jq]
theorem KM{n:Nat}:∀(l:List TUnit),(∀x,x∈l→nU x≤n)→eV l≤n*l.length
 |[],_=>by simp_all[mq]
 |x::r,h=>by
  rw[be,cT,Nat.mul_add,Nat.mul_one];have:=h x (e9 ..);have:=KM r fun y hy=>h y (fk _ hy)
  omega
theorem FT(s:PStep)(u:TUnit)(hp:∀x,x∈bu u→nU x≤nU u):eV (lw s u)≤nU u*nU u:=by
 have h1:=KM (n:=nU u) (lw s u) fun x hx=>hp x (List.mem_filter.1 hx).1
 exact bT h1 (Nat.mul_le_mul_left _ (mh s u))
theorem IW(l:List TUnit):gn [] l=l:=rfl
theorem I6{u:TUnit}{p:List PStep}(h:kI p=false):eZ u p=[]:=by unfold eZ;simp_all
theorem Gu{u:TUnit}(h:kI []=true):eZ u []=[u]:=by unfold eZ;simp_all
theorem GA{u:TUnit}{s:PStep}{r:List PStep}(h:kI (s::r)=true)(hb:nw s=true):eZ u (s::r)=gn r [u]:=by
 unfold eZ;simp_all
theorem xZ{u:TUnit}{s:PStep}{r:List PStep}(h:kI (s::r)=true)(hb:nw s=false):eZ u (s::r)=gn r (lw s u):=by
 unfold eZ;rw[h];show gn r (bif nw s then[u]else(bu u).filter (bD s))=_
 rw[hb];rfl
def cp(s:PStep)(l:List TUnit):List TUnit:=l.flatMap fun x=>x.kids.filter (bD s)
section
variable{s:PStep}{l m r r1 X:List TUnit}{w w1:TUnit}{n N:Nat}{rs0:List PStep}{R at0:List TUnit}
theorem IH:cp s []=[]:=rfl
theorem wP:cp s (w::r)=w.kids.filter (bD s)++cp s r:=by grind[cp]
theorem IJ(rs:List PStep):gn (s::rs) l=gn rs (cp s l):=rfl
theorem F0:eV (cp s l)≤eV l:=zf _ l
theorem fA(h:R=gn (s::rs0) l∧eV l≤N)(e:cp s []=cp s l):R=gn rs0 []∧eV []≤N:=⟨by rw[h.1,IJ,←e];rfl,by simp_all[mq]⟩
theorem fB(h:R=gn (s::rs0) l∧eV l≤N)(e:m++cp s []=cp s l):R=gn rs0 m∧eV m≤N:=by grind[IH,IJ,F0]
theorem gA(h:cp s (w1::r1)=X):w1.kids.filter (bD s)++cp s r1=X:=wP.symm.trans h
theorem gB(h:n=m.length∧m++cp s (w1::r1)=X∧m.length+eV (w1::r1)<N):n=m.length∧m++(w1.kids.filter (bD s)++cp s r1)=X∧m.length+(eV w1.kids+eV r1)<N:=⟨h.1,wP (s:=s)▸h.2.1,by grind[be,jq]⟩
theorem Z7(h:(w::r).filter (bD s)++cp s r1=X)(q:bD s w=false):r.filter (bD s)++cp s r1=X:=by simp_all
theorem Z6(h:n=m.length∧m++((w::r).filter (bD s)++cp s r1)=X∧m.length+(eV (w::r)+eV r1)<N)(q:bD s w=false):n=m.length∧m++(r.filter (bD s)++cp s r1)=X∧m.length+(eV r+eV r1)<N:=⟨h.1,by simp_all,by grind[be]⟩
theorem Z5(h:n=m.length∧m++((w::r).filter (bD s)++cp s r1)=X∧m.length+(eV (w::r)+eV r1)<N)(q:bD s w=true):n+1=(m++[w]).length∧(m++[w])++(r.filter (bD s)++cp s r1)=X∧(m++[w]).length+(eV r+eV r1)<N:=⟨by simp_all,by simp_all,by grind[Iu,be]⟩
end
section
variable{p:PId}{u:TUnit}{i:Int}{l:List PId}
theorem N6(hn:i=Int.ofNat (aG p u).length -2)(h0:aC i 0=false):[bq (gD (aG p u) i.toNat)]=oC p u (i-1+1).toNat:=by
 have h0:=aD h0;simp only[aP]at hn;have e:(i-1+1).toNat=i.toNat:=by omega
 rw[e,BQ p u (k:=i.toNat) (by omega),show i.toNat+1=(aG p u).length -1 by omega,DV,ww]
theorem HB(h:l=oC p u (i+1).toNat)(hi:i+2≤(aG p u).length)(h0:aC i 0=false):l++[bq (gD (aG p u) i.toNat)]=oC p u (i-1+1).toNat:=by
 have h0:=aD h0;grind[BQ]
theorem Sz(h:l=oC p u (i+1).toNat)(hi: -1≤i)(h0:aC i 0=true):l=pR p u:=by
 have h0:=al h0;rw[h,show(i+1).toNat=0 by omega,Ei]
theorem Sq(hn:i=Int.ofNat (aG p u).length -2)(h0:aC i 0=true):pR p u=[]:=by
 have h0:=al h0;simp only[aP]at hn;rw[←Ei];have:(aG p u).length -1=0:=by omega
 grind[DV]
end
theorem Km{s:PStep}{l m:List TUnit}(h:dx s l=m)(hm:m≠[]):l≠[]:=by grind[mP]
theorem VI(l:List TUnit){z:AV}(hz:z.top=0):aq (l.map aV++[z])=0:=kX.2 fun x hx=>by grind[iY]
theorem o3{l x r:List TUnit}{w:TUnit}{j:Nat}(h1:l.drop j=x)(h2:x=w::r):nU w+eV r≤eV l:=by
 have e:l=l.take j++(w::r):=by grind[List.take_append_drop]
 grind[sF,be]
end Go.Ev
namespace Go.Ev
open Go
def qa(l:List aT)(n:Int):Bool:=qb l&&ax (aC (.ofNat l.length) n)
def Bl(n:Int):Bool:=ax (aC n 0)&&ax (aC 256 n)
theorem I5{u:TUnit}(p:List PStep)(h:nU u≤2^11):(eZ u p).length≤2^22:=by
 have key:∀(rs:List PStep)(l:List TUnit),eV (gn rs l)≤eV l:=by
  intro rs;induction rs with
  |nil=>intro l;exact ao _
  |cons s r ih=>grind[IJ,F0]
 unfold eZ;cases kI p with
 |false=>simp_all
 | true=>
  simp only[cond_true];cases p with
  |nil=>simp_all
  | cons s r=>
   simp only[];refine bT (yX _) (bT (key r _) ?_);cases nw s with
   |true=>grind[be,mq]
   |false=>
    simp only[cond_false];have h1:=FT s u fun x hx=>dP hx
    have h2:nU u*nU u≤2^11*2^11:=Nat.mul_le_mul h h;exact bT h1 h2
theorem GI{u:TUnit}{p:List PStep}(h:eZ u p=[]):aF u p=(b0,7):=by grind[aF]
theorem GH{u x:TUnit}{p:List PStep}(h:eZ u p=[x]):aF u p=(bq x,0):=by grind[aF]
theorem GG{u x y:TUnit}{r:List TUnit}{p:List PStep}(h:eZ u p=x::y::r):aF u p=(b0,8):=by grind[aF]
def xa(own:PId)(i:Int)(ok:Bool)(n:Int):PSpot×Int:=bif ok then(⟨own,i+n⟩,0)else(dL,9)
def Cq(e:Int)(sp:PSpot)(e2:Int):PSpot×Int:=bif ah e 0 then(bif ah e2 0 then(sp,0)else(dL,e2))else(dL,e)
def n7(p q own:PId)(at_:Int)(ok c bs:Bool)(sp:PSpot)(e:Int):PSpot×Int:=
 bif ax ok||((ax (bj q p)&&c)||(bj q p&&ax bs))then(dL,9)
 else bif bj q p then(⟨own,at_⟩,0)
 else bif ah e 0&&(bj sp.id own&&aC at_ sp.at_)then(⟨sp.id,sp.at_-1⟩,e)else(sp,e)
end Go.Ev
