/- An abstract machine for runs of the program, proved sound against the model: part 6. No conditions. -/
import Derived.Test.YtadodlkibeofjaaGreatDoorMach5
import Derived.Shelf.SortM.Plain
import Derived.Shelf.SortM.SortNone
import Derived.Shelf.SlSortCmp.NoneTotal
import Derived.Shelf.SlicesG.CompactI
import Derived.Lib.QuietBelow
import GoSem.ClaimJoined
import Derived.Calls
import Derived.RunT
import Derived.Below
import Derived.Shelf.Strings.FuncGrows
import Derived.Laws.RangeAny
import Derived.Lib.Join
import Derived.Lib.Repeat
import Derived.Lib.SlTrimSet
import Derived.Lib.LaidTab
import Derived.Lib.ItoaNum
namespace Go.Ev
open Go Go.Sort Go.Proofs
section
variable{P:Program}{G:eB}{pl:Pl}{M:dl}{h:AHeap}{w w':World}
theorem ta(hr:ct pl M h w){id:Nat}{p:Place}{sz:Nat}{op:Bool}{ep:Nat}{xs xs':List AV}{c c':Array Value}{t:TypeId}(hp:pl id=some p)(hg:h.get id=some (.row sz op ep xs))
  (hb:w.heap[p.blk]?=some (.cells c t (0,0)))(hw:w'.heap[p.blk]?=some (.cells c' t (0,0)))(hcs:c'.size=c.size)(hlen:xs'.length=xs.length)(hel:∀x,x∈xs'->x.cells.length=sz/\Sc x)
  (hcell:∀i x j y,xs'[i]?=some x->x.cells[j]?=some y->VRel pl M y (c'.getD (i*sz+j) undef))(hs:WSame w w')(hsz:w.heap.size<=w'.heap.size)(hk:∀b,b<w.heap.size->b≠p.blk->w'.heap[b]?=w.heap[b]?):
  ct pl M (h.put id (.row sz op ep xs')) w'/\cO h pl M w (h.put id (.row sz op ep xs')) pl M w':=by
 have ho:=hr.obj id p _ hp hg;rw[hb]at ho;simp only[bb]at ho;obtain⟨h1,h2,h3,h4,h5,h6,h7,h8⟩:=ho;have e:=qw (pl:=pl) hp;have:=ct.change (p':=p) (o':=.row sz op ep xs') hr hp hg (.inl rfl) hs hsz hk (.inl rfl) (sW.1 hw).1 (by
  rw[e,hw];simp only[bb];refine⟨h1,h2,by omega,by omega,trivial,h6,fun e=>by simp_all,⟨?_,hel,fun i x j y q1 q2=>?_⟩⟩
  ·grind[cases InMem]
  simp_all)
 simp_all
variable{β:Type}[Inhabited β]
theorem qN{enc:β->Value}{blk off n:Nat}{d:Array β}{os:Array Obj}{c:Array Value}{t:TypeId}{fr:Nat×Nat}(hb:w.heap[blk]?=some (.cells c t fr)):
  (grow (putRow enc (Sort.ahead w n) blk off d) os).heap[blk]?=some (.cells (putCells enc off d c) t fr):=by
 grind[grow,putRow,mapBlock,Sort.ahead,onCells]
theorem kf{enc:β->Value}{blk off n:Nat}{d:Array β}{os:Array Obj}{b:Nat}(hb:b<w.heap.size)(hne:b≠blk):
  (grow (putRow enc (Sort.ahead w n) blk off d) os).heap[b]?=w.heap[b]?:=by
 simp only[grow,putRow,mapBlock,Sort.ahead];grind
theorem oQ{enc:β->Value}{blk off n:Nat}{d:Array β}{os:Array Obj}:WSame w (grow (putRow enc (Sort.ahead w n) blk off d) os):=⟨rfl,rfl,rfl,Nat.le_add_right _ _⟩
theorem B6{enc:β->Value}{blk off n:Nat}{d:Array β}{os:Array Obj}:w.heap.size<=(grow (putRow enc (Sort.ahead w n) blk off d) os).heap.size:=by simp_all
theorem n8{enc:β->Value}{d:Array β}{c:Array Value}{k:Nat}(hk:k<d.size)(hc:k<c.size):(putCells enc 0 d c).getD k undef=enc d[k]!:=by simp_all[putCells]
theorem qc(hr:ct pl M h w){id ep len sz:Nat}{op:Bool}{cap:Option Nat}{xs:List AV}{x:Value}(hv:VRel pl M (.slice id ep 0 len cap) x)(hg:h.get id=some (.row sz op ep xs))(hl:0<len):
  ∃p c t cap',pl id=some p/\w.heap[p.blk]?=some (.cells c t (0,0))/\x=.slice (some ⟨p.blk,0,none⟩) len cap'/\InMem pl M c 0 sz xs/\0<sz/\p.blk<w.heap.size:=by
 cases hv with
 | slice hp he hle hk ha=>
  rename_i cap' a p;have ho:=hr.obj id p _ hp hg;cases hb:w.heap[p.blk]? with
  |none=>grind[bb]
  |some ob=>
   rw[hb]at ho;cases ob<;>simp only[bb]at ho
   rename_i c t fr;obtain⟨h1,h2,h3,h4,h5,h6,h7,h8⟩:=ho;subst h5;obtain⟨k1,_⟩:=ha (by omega);have k2:a=⟨p.blk,0,none⟩:=by grind
   exact⟨p,c,t,_,hp,hb,by rw[k2],h8,h6,(sW.1 hb).1⟩
def dL(zs:List Int):List Int:=zs.mergeSort fun x y=>decide (x<=y)
theorem lQ(zs:List Int):(dL zs).Perm zs:=List.mergeSort_perm ..
theorem EQ(zs:List Int):(dL zs).Pairwise (fun a b=>a<=b):=by
 have:=List.pairwise_mergeSort (le:=fun x y:Int=>decide (x<=y)) (by grind) (by grind) zs;exact this.imp (by simp)
theorem DK{c:Array Value}{sz:Nat}{xs:List AV}(hm:InMem pl M c 0 sz xs){i:Nat}{x:AV}(hx:xs[i]?=some x){j:Nat}(hj:j<sz):i*sz+j<c.size/\∃y,x.cells[j]?=some y/\VRel pl M y (c.getD (i*sz+j) undef):=by
 have h1:=hm.fit;have hi:=(fp.1 hx).1;have h2:=(hm.elem x (bh hx)).1;have h3:(i+1)*sz<=xs.length*sz:=eD _ hi;rw[jI]at h3;refine⟨by omega,x.cells[j],by simp_all,?_⟩;have:=hm.cell i x j _ hx (kE (by omega:j<x.cells.length));simp_all
theorem BL{f:FuncId}(hE:∀vs w,(callFunc f vs).run P w=.ok (.enter f vs) w)
  (hC:∀(blk off cap:Nat)(zs:List Int)(w:World),Holds (Value.int .i64) w blk off zs.toArray->blk<w.heap.size->zs.length<4611686018427387904->
   Calls P f #[.slice (some ⟨blk,off,none⟩) zs.length cap] w fun e w'=>e=.returned (.tuple #[])/\∃n os,w'=grow (putRow (Value.int .i64) (Sort.ahead w n) blk off (zs.mergeSort fun x y=>decide (x<=y)).toArray) os)
  {id ep:Nat}{op:Bool}{cap:Option Nat}(zs:List Int)(hg:h.get id=some (.row 1 op ep (zs.map bW)))(hz:0<zs.length)(hb:zs.length<4611686018427387904):
  aE P G f [.slice id ep 0 zs.length cap] h (fun v h'=>v=.tuple []/\h'=h.put id (.row 1 op ep ((dL zs).map bW))):=by
 intro pl M w vs hG hr hv;obtain⟨a,rfl,hv1⟩:=Ny hv;obtain⟨p,c,t,cap',hp,hbl,rfl,hm,_,hlt⟩:=qc hr hv1 hg hz;have hcell:∀j z,zs[j]?=some z->j<c.size/\c.getD j undef=.int .i64 z:=by
  intro j z hj;have hx:(zs.map bW)[j]?=some (bW z):=by simp_all
  obtain⟨q1,y,q2,q3⟩:=DK hm hx (j:=0) (by omega);rw[Nat.mul_one,pH]at q1 q3;simp[bW,AV.cells]at q2;subst q2;refine⟨q1,?_⟩;cases hq:c.getD j undef<;>rw[hq]at q3<;>cases q3
  rfl
 refine .inl ⟨hE _ _,Calls.mono (hC p.blk 0 cap' zs w (fun j hj=>?_) hlt hb) fun e w' ⟨he,n,os,hw⟩=>?_⟩
 ·have hj':j<zs.length:=by omega
  obtain⟨q1,q2⟩:=hcell j zs[j] (kE hj');rw[fL];refine⟨?_,?_⟩
  ·simp only[World.cell?,hbl];simp only[Option.isSome_none,fN,if_false];rw[CJ q1];simp_all
  grind[World.frozen?]
 ·refine⟨.tuple #[],.tuple [],_,he,⟨rfl,rfl⟩,pl,M,rj,?_⟩;have hlen:(dL zs).length=zs.length:=(lQ zs).length_eq;have hw1:w'.heap[p.blk]?=some (.cells (putCells (Value.int .i64) 0 (dL zs).toArray c) t (0,0)):=by rw[hw];exact qN hbl
  obtain⟨r1,r2⟩:=ta (w':=w') (xs':=(dL zs).map bW) hr hp hg hbl hw1 (by simp[putCells]) (by simp_all) (fun x hx=>by
    obtain⟨z,_,rfl⟩:=gn.1 hx;exact⟨rfl,fun y hy=>by simp[bW,AV.cells]at hy;subst hy;rfl⟩) (fun i x j y q1 q2=>by
    rw[qq]at q1;obtain⟨z,e1,rfl⟩:=Fp.1 q1;have hi:=(fp.1 e1).1;cases j with
    |succ j=>grind[bW,AV.cells]
    |zero=>
     simp[bW,AV.cells]at q2;subst q2;rw[Nat.mul_one,pH,n8 (by omega) (hcell i zs[i] (kE (by omega))).1];have:(dL zs).toArray[i]! =z:=by simp_all
     rw[this];exact .int _ _) (by grind[oQ]) (by simp_all) (fun b hb hne=>by grind[kf])
  exact⟨r1,r2,af _⟩
def ba(zs:List Int):List Int:=Lib.compact zs
theorem xo(zs:List Int):(ba zs).length<=zs.length:=by grind[ba,Lib.compact,Lib.compactUpTo]
theorem wx{f:FuncId}(hE:∀vs w,(callFunc f vs).run P w=.ok (.enter f vs) w)
  (hC:∀(blk off cap:Nat)(zs:List Int)(w:World),Holds (Value.int .i64) w blk off zs.toArray->zs.length<=9223372036854775807->zs.length<=cap->
   Calls P f #[.slice (some ⟨blk,off,none⟩) zs.length cap] w fun e w'=>e=.returned (.slice (some ⟨blk,off,none⟩) (Lib.compact zs).length cap)/\∃q,w'=putRow (Value.int .i64) (Sort.ahead w q) blk off (Lib.compact zs++List.replicate (zs.length-(Lib.compact zs).length) 0).toArray)
  {id ep:Nat}{op:Bool}(zs:List Int)(hg:h.get id=some (.row 1 op ep (zs.map bW)))(hz:0<zs.length)(hb:zs.length<4611686018427387904):
  aE P G f [.slice id ep 0 zs.length none] h (fun v h'=>v=.slice id ep 0 (ba zs).length none/\h'=h.put id (.row 1 op ep ((ba zs++List.replicate (zs.length-(ba zs).length) 0).map bW))):=by
 intro pl M w vs hG hr hv;obtain⟨a,rfl,hv1⟩:=Ny hv;obtain⟨p,c,t,cap',hp,hbl,rfl,hm,_,hlt⟩:=qc hr hv1 hg hz;have hcell:∀j z,zs[j]?=some z->j<c.size/\c.getD j undef=.int .i64 z:=by
  intro j z hj;have hx:(zs.map bW)[j]?=some (bW z):=by simp_all
  obtain⟨q1,y,q2,q3⟩:=DK hm hx (j:=0) (by omega);rw[Nat.mul_one,pH]at q1 q3;simp[bW,AV.cells]at q2;subst q2;refine⟨q1,?_⟩;cases hq:c.getD j undef<;>rw[hq]at q3<;>cases q3
  rfl
 have hle:=xo zs;have hcap:zs.length<=cap':=by grind[cases VRel]
 generalize hnew:ba zs++List.replicate (zs.length-(ba zs).length) 0=ns;have hnl:ns.length=zs.length:=by grind
 refine .inl ⟨hE _ _,Calls.mono (hC p.blk 0 cap' zs w (fun j hj=>?_) (by omega) hcap) fun e w' ⟨he,n,hw⟩=>?_⟩
 ·have hj':j<zs.length:=by omega
  obtain⟨q1,q2⟩:=hcell j zs[j] (kE hj');rw[fL];refine⟨?_,?_⟩
  ·simp only[World.cell?,hbl];simp only[Option.isSome_none,fN,if_false];rw[CJ q1];simp_all
  grind[World.frozen?]
 ·have hw2:w'=grow (putRow (Value.int .i64) (Sort.ahead w n) p.blk 0 ns.toArray) #[]:=by rw[hw,grow_empty];congr 2
  have hrel:VRel pl M (.slice id ep 0 (ba zs).length none) (.slice (some ⟨p.blk,0,none⟩) (ba zs).length cap'):=by
   cases hv1 with
   |slice hp he hl hk ha=>
    refine .slice hp he (by omega) hk fun e=>?_
    grind
  refine⟨_,_,_,he,⟨rfl,rfl⟩,pl,M,hrel,?_⟩;have hw1:w'.heap[p.blk]?=some (.cells (putCells (Value.int .i64) 0 ns.toArray c) t (0,0)):=by grind[qN]
  obtain⟨r1,r2⟩:=ta (w':=w') (xs':=ns.map bW) hr hp hg hbl hw1 (by simp[putCells]) (by simp_all) (fun x hx=>by
    obtain⟨z,_,rfl⟩:=gn.1 hx;exact⟨rfl,fun y hy=>by simp[bW,AV.cells]at hy;subst hy;rfl⟩) (fun i x j y q1 q2=>by
    rw[qq]at q1;obtain⟨z,e1,rfl⟩:=Fp.1 q1;have hi:=(fp.1 e1).1;cases j with
    |succ j=>grind[bW,AV.cells]
    |zero=>
     simp[bW,AV.cells]at q2;subst q2;rw[Nat.mul_one,pH,n8 (by omega) (hcell i zs[i] (kE (by omega))).1];have:ns.toArray[i]! =z:=by simp_all
     rw[this];exact .int _ _) (by grind[oQ]) (by simp_all) (fun b hb hne=>by grind[kf])
  exact⟨r1,r2,af _⟩
theorem EZ{f:FuncId}(hE:∀vs w,(callFunc f vs).run P w=.ok (.enter f vs) w)
  (hC:∀(p:Option Addr)(cap:Nat)(w:World),Calls P f #[.slice p 0 cap] w fun e w'=>e=.returned (.tuple #[])/\w'=w):aL P G f [.nils] (.tuple []):=by
 intro h pl M w vs hG hr hv;obtain⟨a,rfl,hv1⟩:=Ny hv;cases hv1
 exact .inl ⟨hE _ _,Calls.mono (hC none 0 w) fun e w' ⟨he,hw⟩=>⟨.tuple #[],.tuple [],h,he,⟨rfl,rfl⟩,pl,M,rj,by simp_all[StepF.refl]⟩⟩
theorem oU{f:FuncId}{g:Fn}(hE:∀vs w,(callFunc f vs).run P w=.ok (.enter f vs) w)
  (hC:∀(p:Option Addr)(cap:Nat)(fv:Value)(w:World),Calls P f #[.slice p 0 cap,fv] w fun e w'=>e=.returned (.tuple #[])/\w'=w):aL P G f [.nils,.func g [] []] (.tuple []):=by
 intro h pl M w vs hG hr hv;obtain⟨a,b,rfl,hv1,hv2⟩:=Bg hv;cases hv1
 exact .inl ⟨hE _ _,Calls.mono (hC none 0 b w) fun e w' ⟨he,hw⟩=>⟨.tuple #[],.tuple [],h,he,⟨rfl,rfl⟩,pl,M,rj,by simp_all[StepF.refl]⟩⟩
def wQ{α:Type}(cmp:α->α->Int)(a b:α):Bool:=decide (cmp a b<0)
theorem sk{f g:FuncId}{sz:Nat}(hGT:iT G)(hE:∀vs w,(callFunc f vs).run P w=.ok (.enter f vs) w)(hg2:∀args w,(callFunc g args).run P w=.ok (.enter g args) w)
  (hC:∀(m:Nat)(enc:Fin (m+1)->List Value)(cf:Fin (m+1)->Fin (m+1)->Int)(blk off cap:Nat)(d:Array (Fin (m+1)))(w:World),(∀x,(enc x).length=sz)->(∀x,∀v∈enc x,v.oneCell'=true)->SWO (ltOf cf)->
   CmpLays P g #[] enc sz cf blk off d.size w->HoldsK enc sz w blk off d->blk<w.heap.size->d.size<4611686018427387904->
   Calls P f #[.slice (some ⟨blk,off,none⟩) d.size cap,.func (.func g) #[] #[]] w fun e w'=>e=.returned (.tuple #[])/\∃d' n os,PermIn 0 d.size d d'/\SortedIn (ltOf cf) 0 d.size d'/\w'=sortWorldK enc sz w blk off n d' os)
  {α:Type}[Inhabited α](enc:α->AV)(cmp:α->α->Int)(hO:SWO (wQ cmp))(hag:∀a,∃cs,enc a=.agg cs)(htop:∀a,(enc a).top=0)
  (l:List α)(hcmp:∀a,a∈l->∀b,b∈l->aL P G g [enc a,enc b] (.int .i64 (cmp a b)))
  {oid ep:Nat}{op:Bool}{cap:Option Nat}(hg:h.get oid=some (.row sz op ep (l.map enc)))(hz:0<l.length)(hb:l.length<4611686018427387904):
  aE P G f [.slice oid ep 0 l.length cap,.func (.func g) [] []] h (fun v h'=>∃l':List α,(l'.Perm l/\l'.Pairwise fun a b=>wQ cmp b a=false)/\v=.tuple []/\h'=h.put oid (.row sz op ep (l'.map enc))):=by
 intro pl M w vs hG hr hv;obtain⟨a,fv,rfl,hv1,hv2⟩:=Bg hv;have e2:=zl hv2;subst e2;obtain⟨p,c,t,cap',hp,hbl,rfl,hm,hsz0,hlt⟩:=qc hr hv1 hg hz;obtain⟨m,hm1⟩:∃m,l.length=m+1:=⟨l.length-1,by omega⟩
 have hfit:=hm.fit;rw[b9,fL,hm1]at hfit;have helem:∀i:Fin (m+1),(l.map enc)[i.1]?=some (enc l[i.1]!):=fun i=>by
  have:=i.2;rw[qq,kE (by omega),getElem!_pos l i.1 (by omega)];rfl
 have hmul:∀i:Fin (m+1),i.1*sz+sz<=(m+1)*sz:=fun i=>by have:=eD sz (Nat.succ_le_of_lt i.2);rwa[qz]at this
 generalize hcof:(fun i:Fin (m+1)=>(List.range sz).map fun j=>c.getD (i.1*sz+j) undef)=cellsOf;have cl:∀i,(cellsOf i).length=sz:=fun i=>by rw[<-hcof];simp
 have cg:∀i j,j<sz->(cellsOf i)[j]?=some (c.getD (i.1*sz+j) undef):=fun i j hj=>by rw[<-hcof];simp[hj]
 generalize hd:(Array.ofFn (n:=m+1) id)=d;have hds:d.size=m+1:=by rw[<-hd];simp
 have hdg:∀j (hj:j<m+1),d[j]! =⟨j,hj⟩:=fun j hj=>by rw[getElem!_pos d j (by omega)];subst hd;simp
 have hflat:∀(dk:Array (Fin (m+1))),dk.size=m+1->∀i j,i<m+1->j<sz->(flatK cellsOf sz dk)[i*sz+j]! =c.getD ((dk[i]!).1*sz+j) undef:=fun dk hdk i j hi hj=>by
  have h1:i*sz+j<dk.size*sz:=by have:=eD sz (Nat.succ_le_of_lt hi);rw[qz]at this;rw[hdk];omega
  rw[get_flatK cellsOf sz dk _ h1];have h2:(i*sz+j)/sz=i:=by rw[Nat.mul_comm,Nat.mul_add_div hsz0,Nat.div_eq_of_lt hj,pH]
  have h3:(i*sz+j)%sz=j:=by rw[Nat.mul_comm,Nat.mul_add_mod,Nat.mod_eq_of_lt hj]
  rw[h2,h3,getElem!_pos _ j (by rw[cl];exact hj)];have:=cg (dk[i]!) j hj;rw[kE (by rw[cl];exact hj)]at this;simpa using this
 have hH:HoldsK cellsOf sz w p.blk 0 d:=by
  intro k hk;rw[size_flatK,hds]at hk;have hi:k/sz<m+1:=Nat.div_lt_of_lt_mul (by rw[Nat.mul_comm];exact hk);have hj:k%sz<sz:=Nat.mod_lt _ hsz0;have hk2:k/sz*sz+k%sz=k:=by rw[Nat.mul_comm];exact Nat.div_add_mod k sz
  have:=hflat d hds (k/sz) (k%sz) hi hj;rw[hdg _ hi,hk2]at this;rw[this,fL];have hkc:k<c.size:=by omega
  refine⟨?_,by simp[World.frozen?,hbl]⟩;simp only[World.cell?,hbl];simp only[Option.isSome_none,fN,if_false];rw[CJ hkc];simp[Array.getD,hkc]
 have hrelE:∀(i:Fin (m+1)) cs,enc l[i.1]! =.agg cs->cs.length=sz/\(∀y,y∈cs->cN y=true)/\∀(j:Nat)(y:AV),cs[j]?=some y->VRel pl M y (c.getD (i.1*sz+j) undef):=by
  intro i cs hcs;have h1:=hm.elem _ (bh (helem i));rw[hcs]at h1;refine⟨h1.1,h1.2,fun j y hj=>?_⟩;have:=hm.cell i.1 _ j y (helem i) (by rw[hcs];exact hj);rwa[fL]at this
 have hone:∀i,∀v∈cellsOf i,v.oneCell'=true:=by
  intro i v hvm;obtain⟨j,hj,e⟩:=CY hvm;rw[cl]at hj;have h1:=cg i j hj;rw[kE (by rw[cl];exact hj),e]at h1;obtain⟨cs,hcs⟩:=hag l[i.1]!;obtain⟨k1,k2,k3⟩:=hrelE i cs hcs;have:=k3 j cs[j] (kE (by omega));cases h1
  exact this.one (k2 _ (DM _))
 have hmemL:∀i:Fin (m+1),l[i.1]!∈l:=fun i=>by
  have:=i.2;rw[getElem!_pos l i.1 (by omega)];exact DM _
 have hlays:CmpLays P g #[] cellsOf sz (fun i j=>cmp l[i.1]! l[j.1]!) p.blk 0 d.size w:=by
  intro n os dk hdk x y;generalize hW:sortWorldK cellsOf sz w p.blk 0 n dk os=W;have hWo:∀b,b<w.heap.size->b≠p.blk->W.heap[b]?=w.heap[b]?:=fun b h1 h2=>by rw[<-hW];exact kf h1 h2
  have hrW:ct (fun _=>none) M AHeap.none W:=qo (pl:=fun _=>none) (n:=0) (g:=AHeap.none.get) ⟨fun _ _ h=>by simp at h,fun _ _ _ h=>by simp at h,fun _ _ h=>by simp at h,fun _ _ _ _ h=>by simp at h,fun b c' hM=>by
   obtain⟨t',fr,q⟩:=hr.imm b c' hM;refine⟨t',fr,?_⟩;rw[hWo b (hr.memLt hM) (fun e=>by have:=hr.sep oid p hp;rw[<-e,hM]at this;cases this)];exact q,fun _ _ h=>by simp at h⟩
  have hrel:∀i:Fin (m+1),VRel (fun _=>none) M (enc l[i.1]!) (.agg (cellsOf i).toArray):=by
   intro i;obtain⟨cs,hcs⟩:=hag l[i.1]!;obtain⟨k1,k2,k3⟩:=hrelE i cs hcs;have ht:=htop l[i.1]!;rw[hcs]at ht ⊢;refine .agg (by simp[cl,k1]) k2 fun j y hj=>?_
   have hj':j<sz:=by rw[<-k1];exact(fp.1 hj).1
   have e:(cellsOf i).toArray.getD j undef=c.getD (i.1*sz+j) undef:=by
    have:=cg i j hj';rw[gv,oY,this];rfl
   rw[e];exact(k3 j y hj).none (kW.1 ht y (bh hj))
  have hc:=hcmp _ (hmemL x) _ (hmemL y) AHeap.none (fun _=>none) M W #[.agg (cellsOf x).toArray,.agg (cellsOf y).toArray] (hG.none hGT) hrW ⟨rfl,fun j z hj=>by
   match j,hj with
   |0,hj=>cases hj;exact hrel x
   |1,hj=>cases hj;exact hrel y⟩
  rcases hc with⟨h1,h2⟩|⟨cv,w',v,h',h1,h2,h3⟩
  ·refine Calls.mono h2 fun e w' ⟨cv,v,h',k1,k2,pl',M',k3,k4,k5,k6⟩=>?_
   obtain⟨k2,_⟩:=k2;subst k2;cases k3
   refine⟨k1,?_⟩;obtain⟨q,hq⟩:=regrown_of_below (w:=W) (w':=w') ⟨k5.os,k5.tape,k5.out,k5.size,fun b hb=>k5.kept b hb fun id p h=>by simp at h⟩;refine⟨w'.drawn-W.drawn,q.os,?_⟩;have hd1:w'.drawn=q.d:=by rw[hq];rfl
   have hd2:=k5.drawn;have:redrawn W q.d=W.drewN (w'.drawn-W.drawn):=by
    show({W with drawn:=q.d}:World)={W with drawn:=W.drawn+(w'.drawn-W.drawn)}
    congr 1;omega
   rw[<-this];exact hq
  ·rw[hg2]at h1;cases h1
 refine .inl ⟨hE _ _,?_⟩;have hcall:=hC m cellsOf (fun i j=>cmp l[i.1]! l[j.1]!) p.blk 0 cap' d w cl hone ⟨fun x=>hO.irrefl _,fun x y z=>hO.trans _ _ _,fun x y z=>hO.ntrans _ _ _⟩ hlays hH hlt (by omega);rw[show d.size=l.length by omega]at hcall;refine Calls.mono hcall fun e w' ⟨he,d',n,os,hP,hS,hw⟩=>?_
 obtain⟨hp1,_,hp3⟩:=hP;have hd's:d'.size=m+1:=by omega
 have hperm:d'.toList.Perm d.toList:=by
  have e1:d'.extract 0 l.length=d':=by rw[show l.length=d'.size by omega];exact Array.extract_size
  have e2:d.extract 0 l.length=d:=by rw[show l.length=d.size by omega];exact Array.extract_size
  rwa[e1,e2]at hp3
 have hdl:d.toList.map (fun i=>l[i.1]!)=l:=by
  apply List.ext_getElem?;intro i;by_cases hi:i<l.length
  ·rw[qq,Array.getElem?_toList,CJ (by omega),kE hi];have:=hdg i (by omega);rw[getElem!_pos d i (by omega)]at this;rw[this];show some (l[i]!)=some l[i]
   rw[getElem!_pos l i hi]
  ·rw[List.getElem?_eq_none (by simp;omega),List.getElem?_eq_none (by omega)]
 have hl':(d'.toList.map (fun i=>l[i.1]!)).length=l.length:=by simp;omega
 refine⟨.tuple #[],.tuple [],_,he,⟨d'.toList.map (fun i=>l[i.1]!),⟨?_,?_⟩,rfl,rfl⟩,pl,M,rj,?_⟩
 ·have:=hperm.map (fun i=>l[i.1]!);rwa[hdl]at this
 ·rw[Fo];intro i j hi hj hij;have hi':i<d'.size:=by simpa using hi
  have hj':j<d'.size:=by simpa using hj
  have:=hS i j (bA _) hij (by omega);rw[getElem!_pos d' i hi',getElem!_pos d' j hj']at this;simpa[wQ,ltOf]using this
 ·have hw1:w'.heap[p.blk]?=some (.cells (putCells id 0 (flatK cellsOf sz d') c) t (0,0)):=by rw[hw];exact qN hbl
  obtain⟨r1,r2⟩:=ta (w':=w') (xs':=(d'.toList.map (fun i=>l[i.1]!)).map enc) hr hp hg hbl hw1 (by simp[putCells]) (by simp;omega) (fun x hx=>by
    obtain⟨z,h1,rfl⟩:=gn.1 hx;obtain⟨i,_,rfl⟩:=gn.1 h1;exact hm.elem _ (bh (helem i))) (fun i x j y q1 q2=>by
    rw[qq,qq,Array.getElem?_toList]at q1;obtain⟨z,e1,rfl⟩:=Fp.1 q1;obtain⟨k,e2,rfl⟩:=Fp.1 e1;have hi:i<d'.size:=(sW.1 e2).1;obtain⟨cs,hcs⟩:=hag l[k.1]!;obtain⟨k1,k2,k3⟩:=hrelE k cs hcs;rw[hcs]at q2;have hj:j<sz:=by rw[<-k1];exact(fp.1 q2).1
    have hb1:i*sz+j<(m+1)*sz:=by have:=eD sz (Nat.succ_le_of_lt (show i<m+1 by omega));rw[qz]at this;omega
    rw[n8 (by rw[size_flatK,hd's];exact hb1) (by omega)];have:=hflat d' hd's i j (by omega) hj;have e3:d'[i]! =k:=by rw[getElem!_pos d' i hi];rw[CJ hi]at e2;simpa using e2
    rw[e3]at this;show VRel pl M y (flatK cellsOf sz d')[i*sz+j]!
    rw[this];exact k3 j y q2) (by rw[hw];exact oQ) (by rw[hw];exact B6) (fun b hb hne=>by rw[hw];exact kf hb hne)
  exact⟨r1,r2,af _⟩
end
theorem yn(a b:Int):aB (kQ a b) 0=aB a b:=by
 unfold kQ;cases h:aB a b with
 |true=>rfl
 |false=>cases h2:aB b a<;>rfl
noncomputable def oW(l:List PSpan)(d:Int):Nat:=(l.takeWhile fun s=>aB s.from_ d).length
theorem FQ(l:List PSpan)(d:Int):oW l d<=l.length:=by
 induction l with
 |nil=>simp[oW]
 |cons a r ih=>grind[oW,List.takeWhile_cons]
def sm(l:List PSpan):Prop:=l.Pairwise fun a b=>a.from_<=b.from_
theorem BU{d:Int}:∀{l:List PSpan},sm l->∀k,k<l.length->(aB (gD l k).from_ d=true↔k<oW l d)
 |[],_,k,h=>by simp_all
 | a::r,hs,k,h=>by
  obtain⟨h1,h2⟩:=jH.1 hs;unfold oW;rw[List.takeWhile_cons];cases q:aB a.from_ d with
  | true=>
   simp only[if_true,cM];cases k with
   |zero=>grind[gD]
   |succ k=>
    have:=BU (d:=d) h2 k (by simp_all);rw[show gD (a::r) (k+1)=gD r k from rfl,this];grind[oW]
  |false=>
   simp only[fN,if_false,gp,pG,iff_false,Bool.not_eq_true];have hd:=aF q;grind[dZ,ky]
noncomputable def JP(l:List PSpan)(d:Int):Bool:=aB (Int.ofNat (oW l d)) (Int.ofNat l.length)&&ay (kQ (gD l (oW l d)).from_ d) 0
theorem Pc{l:List PSpan}(h:l.Pairwise fun a b=>a.to<b.from_)(h2:∀s,s∈l->s.from_<s.to):sm l:=by
 induction l with
 |nil=>exact .nil
 |cons a r ih=>
  obtain⟨h3,h4⟩:=jH.1 h;refine jH.2 ⟨fun b hb=>?_,ih h4 fun s hs=>h2 s (eC _ hs)⟩;grind
structure NrmS(l:List PSpan):Prop where
 gap:l.Pairwise fun a b=>a.to<b.from_
 ok:∀s,s∈l->0<=s.from_/\s.from_<s.to/\s.to<=1048577
theorem NrmS.sort{l:List PSpan}(h:NrmS l):sm l:=Pc h.gap fun s hs=>(h.ok s hs).2.1
theorem IL:∀{l:List PSpan}{b:Int},l.Pairwise (fun a b=>a.to<b.from_)->(∀s,s∈l->b<=s.from_/\s.from_<s.to/\s.to<=1048577)->b<=1048577->Int.ofNat l.length<=1048577-b
 |[],b,_,_,hb=>by simp_all
 |a::r,b,h,h2,hb=>by
  obtain⟨h3,h4⟩:=jH.1 h;have h5:=h2 a (eR ..);have:=IL (l:=r) (b:=b+1) h4 (fun s hs=>by grind) (by omega);grind
theorem NrmS.len{l:List PSpan}(h:NrmS l):l.length<=1048577:=by
 have:=IL (b:=0) h.gap h.ok (by omega);grind
noncomputable def iD(l:List PSpan)(d:Int):Bool:=JP l d||(aB 0 (Int.ofNat (oW l d))&&aB d (gD l (oW l d-1)).to)
theorem Ei(a b:Int):C3 a b=max a b:=by
 unfold C3;cases h:aB a b with
 |true=>have:=aA h;grind
 |false=>have:=aF h;grind
theorem JD(a b:Int):OU a b=min a b:=by
 unfold OU;cases h:aB b a with
 |true=>have:=aA h;grind
 |false=>have:=aF h;grind
noncomputable abbrev XQ(s:PSpan):PSpan:=⟨C3 s.from_ 0,OU s.to 1048577⟩
noncomputable abbrev ZJ(s:PSpan):Bool:=aB (C3 s.from_ 0) (OU s.to 1048577)
noncomputable def ji:List PSpan->List PSpan
 |[]=>[]
 |s::r=>match ZJ s with|true=>XQ s::ji r|false=>ji r
theorem vV{s:PSpan}{r:List PSpan}(h:ZJ s=true):ji (s::r)=XQ s::ji r:=by grind[ji]
theorem vY{s:PSpan}{r:List PSpan}(h:ZJ s=false):ji (s::r)=ji r:=by grind[ji]
theorem Do:∀(l:List PSpan),(ji l).length<=l.length
 |[]=>by simp[ji]
 |s::r=>by
  have:=Do r;cases h:ZJ s with
  |true=>grind[vV]
  |false=>grind[vY]
theorem Bq:∀{l:List PSpan}{s:PSpan},s∈ji l->0<=s.from_/\s.from_<s.to/\s.to<=1048577
 | a::r,s,hs=>by
  cases h:ZJ a with
  |true=>
   rw[vV h]at hs;rcases dO.1 hs with e|e
   ·subst e;have h2:=aA h;grind[Ei,JD]
   ·exact Bq e
  |false=>rw[vY h]at hs;exact Bq hs
def memB(l:List PSpan)(d:Int):Bool:=l.any fun s=>decide (s.from_<=d/\d<s.to)
def Ph(d:Int):Bool:=decide (0<=d/\d<1048577)
theorem m9(d:Int):memB [] d=false:=rfl
theorem eu(a:PSpan)(l:List PSpan)(d:Int):memB (a::l) d=(decide (a.from_<=d/\d<a.to)||memB l d):=rfl
theorem AJ(l r:List PSpan)(d:Int):memB (l++r) d=(memB l d||memB r d):=by simp[memB]
theorem jf{l:List PSpan}{d:Int}:memB l d=true↔∃s,s∈l/\s.from_<=d/\d<s.to:=by simp[memB]
theorem Oz{l r:List PSpan}(h:l.Perm r)(d:Int):memB l d=memB r d:=by
 rw[DN,jf,jf];grind
theorem Dn:∀(l:List PSpan)(d:Int),memB (ji l) d=(Ph d&&memB l d)
 |[],d=>by simp[ji,memB]
 | a::r,d=>by
  have ih:=Dn r d;have e:∀b:Bool,(b=decide (0<=d/\d<1048577/\a.from_<=d/\d<a.to))->(b||(Ph d&&memB r d))=(Ph d&&memB (a::r) d):=fun b hb=>by grind[eu,Ph]
  cases h:ZJ a with
  |true=>
   rw[vV h,eu,ih];refine e _ ?_;simp only[Ei,JD];grind
  |false=>
   rw[vY h,ih];have h2:=aF h;simp only[Ei,JD]at h2;grind
theorem NrmS.tail{a:PSpan}{r:List PSpan}(h:NrmS (a::r)):NrmS r:=⟨(jH.1 h.gap).2,fun s hs=>h.ok s (eC _ hs)⟩
theorem NrmS.low{a x:PSpan}{r:List PSpan}(h:NrmS (a::r))(hx:x∈r):a.to<x.from_:=(jH.1 h.gap).1 x hx
theorem NrmS.head{a:PSpan}{r:List PSpan}(h:NrmS (a::r)):0<=a.from_/\a.from_<a.to/\a.to<=1048577:=h.ok a (eR ..)
theorem yj:NrmS []:=⟨.nil,fun s h=>by grind⟩
theorem rl{a:PSpan}{r:List PSpan}(h:NrmS (a::r)):memB (a::r) a.from_=true:=by grind[eu,cases NrmS]
theorem GG{a:PSpan}{r:List PSpan}(h:NrmS (a::r)){d:Int}(hd:memB (a::r) d=true):a.from_<=d:=by
 obtain⟨s,h1,h2,h3⟩:=jf.1 hd;rcases dO.1 h1 with e|e
 ·simp_all
 ·have:=h.low e;grind[cases NrmS]
theorem Q7{a:PSpan}{r:List PSpan}(h:NrmS (a::r)):memB (a::r) a.to=false:=by
 cases q:memB (a::r) a.to with
 |false=>rfl
 |true=>
  obtain⟨s,h1,h2,h3⟩:=jf.1 q;rcases dO.1 h1 with e|e
  ·simp_all
  ·have:=h.low e;omega
theorem GF{a:PSpan}{r:List PSpan}(h:NrmS (a::r))(d:Int):memB r d=(decide (a.to<=d)&&memB (a::r) d):=by
 rw[eu];by_cases h1:a.to<=d
 ·grind
 ·have:memB r d=false:=by
   cases q:memB r d with
   |false=>rfl
   |true=>
    obtain⟨s,h2,h3,h4⟩:=jf.1 q;have:=h.low h2;omega
  grind
theorem zM:∀{r s:List PSpan},NrmS r->NrmS s->(∀d,memB r d=memB s d)->r=s
 |[],[],_,_,_=>rfl
 |[],b::s,_,hs,h=>by grind[rl,m9]
 |a::r,[],hr,_,h=>by grind[rl,m9]
 | a::r,b::s,hr,hs,h=>by
  have h1:b.from_<=a.from_:=GG hs (by grind[rl]);have h2:a.from_<=b.from_:=GG hr (by grind[rl]);have ha:=hr.head;have hb:=hs.head;have h3:¬a.to<b.to:=fun q=>by grind[eu,Q7]
  have h4:¬b.to<a.to:=fun q=>by grind[eu,Q7]
  have e:a=b:=by
   obtain⟨a1,a2⟩:=a;obtain⟨b1,b2⟩:=b;grind
  subst e;rw[zM hr.tail hs.tail fun d=>by rw[GF hr,GF hs,h]]
def wc(f:Int->Bool)(d:Int)(l:List PSpan):List PSpan:=match f d with
 |false=>l
 |true=>match l with
  |[]=>[⟨d,d+1⟩]
  |s::r=>if s.from_=d+1 then⟨d,s.to⟩::r else⟨d,d+1⟩::s::r
def wM(f:Int->Bool):Nat->List PSpan
 |0=>[]
 |k+1=>wc f (1048577-Int.ofNat (k+1)) (wM f k)
theorem Pk{f:Int->Bool}{d:Int}{l:List PSpan}(h0:0<=d)(h1:d+1<=1048577)(hl:NrmS l)(hf:∀s,s∈l->d+1<=s.from_):
  NrmS (wc f d l)/\(∀s,s∈wc f d l->d<=s.from_)/\∀e,memB (wc f d l) e=((decide (e=d)&&f e)||memB l e):=by
 unfold wc;cases hfd:f d with
 |false=>grind
 | true=>
  match l,hl,hf with
  |[],_,_=>
   refine⟨⟨by simp,fun s hs=>by grind⟩,fun s hs=>by simp_all,fun e=>?_⟩;simp only[eu,m9,Bool.or_false];grind
  | s::r,hl,hf=>
   have hs:=hl.head;have hs2:=hf s (eR ..);simp only[];by_cases q:s.from_=d+1
   ·rw[if_pos q];refine⟨⟨jH.2 ⟨fun x hx=>hl.low hx,hl.tail.gap⟩,fun x hx=>?_⟩,fun x hx=>?_,fun e=>?_⟩
    ·grind[cases NrmS]
    ·grind
    ·simp only[eu];grind
   ·rw[if_neg q];refine⟨⟨jH.2 ⟨fun x hx=>?_,hl.gap⟩,fun x hx=>?_⟩,fun x hx=>?_,fun e=>?_⟩
    ·have:=hf x hx;rcases dO.1 hx with e|e
     ·grind
     ·have:=hl.low e;grind
    ·rcases dO.1 hx with e|e
     ·grind
     ·exact hl.ok x e
    ·grind
    ·rw[eu];grind
theorem Ga(f:Int->Bool):∀k,k<=1048577->NrmS (wM f k)/\(∀s,s∈wM f k->1048577-Int.ofNat k<=s.from_)/\∀e,memB (wM f k) e=(decide (1048577-Int.ofNat k<=e/\e<1048577)&&f e)
 |0,_=>by
  refine⟨yj,fun s h=>(by cases h),fun e=>?_⟩;have:decide (1048577-Int.ofNat 0<=e/\e<1048577)=false:=by simp_all
  rw[this];rfl
 |k+1,hk=>by
  obtain⟨h1,h2,h3⟩:=Ga f k (by omega);simp only[aM]at *;have:=Pk (f:=f) (d:=1048577-((k+1:Nat):Int)) (l:=wM f k) (by omega) (by omega) h1 (fun s hs=>by grind);have h5:wM f (k+1)=wc f (1048577-((k+1:Nat):Int)) (wM f k):=by grind[wM]
  grind
theorem Q9(f:Int->Bool):∃l:List PSpan,NrmS l/\∀d,memB l d=(Ph d&&f d):=by
 obtain⟨h1,_,h3⟩:=Ga f 1048577 (af _);exact⟨_,h1,fun d=>by simp_all[Ph]⟩
noncomputable def nf(f:Int->Bool):List PSpan:=Classical.choose (Q9 f)
theorem zR(f:Int->Bool):NrmS (nf f):=(Classical.choose_spec (Q9 f)).1
theorem JA(f:Int->Bool)(d:Int):memB (nf f) d=(Ph d&&f d):=(Classical.choose_spec (Q9 f)).2 d
theorem RQ{f:Int->Bool}{r:List PSpan}(h:NrmS r)(hm:∀d,memB r d=(Ph d&&f d)):r=nf f:=zM h (zR f) fun d=>by grind[JA]
theorem RZ{f g:Int->Bool}(h:∀d,Ph d=true->f d=g d):nf f=nf g:=RQ (zR f) fun d=>by
 rw[JA];grind
theorem Ur{l:List PSpan}(h:NrmS l):l=nf (memB l):=RQ h fun d=>by
 cases q:memB l d with
 |false=>simp_all
 |true=>
  obtain⟨s,h1,h2,h3⟩:=jf.1 q;have:=h.ok s h1;have:Ph d=true:=by unfold Ph;grind
  simp_all
theorem D6{α:Type}[Inhabited α]{l:List α}{n:Nat}(h:n<l.length):l.take (n+1)=l.take n++[gD l n]:=by grind[List.take_add_one,gD]
theorem E1{α:Type}[Inhabited α]{l:List α}{n:Nat}(h:n<l.length):l.drop n=gD l n::l.drop (n+1):=by grind[List.drop_eq_getElem_cons,gD]
theorem uZ{α:Type}{l:List α}{n m:Nat}{x:α}(h:n<=m):(l.set m x).take n=l.take n:=by
 apply List.ext_getElem?;grind
theorem R5{α:Type}[Inhabited α]{l:List α}{i k:Nat}{x:α}(h:i<l.length):gD (l.set i x) k=if k=i then x else gD l k:=by
 unfold gD List.getD;grind
theorem sm.at{l:List PSpan}(h:sm l){i k:Nat}(hik:i<=k)(hk:k<l.length):(gD l i).from_<=(gD l k).from_:=by
 rcases fm i k with q|q
 ·have:=Fo.1 h i k (by omega) hk q;grind[gD]
 grind
structure MergeI(l cur:List PSpan)(n i:Nat):Prop where
 len:cur.length=l.length
 le:n<=i
 il:i<=l.length
 pos:0<i->0<n
 rest:∀k,i<=k->k<l.length->gD cur k=gD l k
 gap:∀j k,j<k->k<n->(gD cur j).to<(gD cur k).from_
 ok:∀k,k<n->0<=(gD cur k).from_/\(gD cur k).from_<(gD cur k).to/\(gD cur k).to<=1048577
 last:0<n->∀k,i<=k->k<l.length->(gD cur (n-1)).from_<=(gD l k).from_
 mem:∀d,(memB (cur.take n) d||memB (l.drop i) d)=memB l d
theorem MergeI.start(l:List PSpan):MergeI l l 0 0:=⟨rfl,af _,bA _,fun h=>absurd h (wm _),fun _ _ _=>rfl,fun _ _ _ h=>absurd h (pG _),fun _ h=>absurd h (pG _),fun h=>absurd h (wm _),fun d=>by simp[memB]⟩
theorem MergeI.copy{l cur:List PSpan}{n i:Nat}(h:MergeI l cur n i)(hi:i<l.length)(hs:sm l)(hok:∀k,k<l.length->0<=(gD l k).from_/\(gD l k).from_<(gD l k).to/\(gD l k).to<=1048577)
  (hn:n=0\/(gD cur (n-1)).to<(gD cur i).from_):MergeI l (cur.set n (gD cur i)) (n+1) (i+1):=by
 rw[h.rest i (af _) hi]at hn ⊢;have hl:=h.le;have hcl:=h.len;have hg:∀k,gD (cur.set n (gD l i)) k=if k=n then gD l i else gD cur k:=fun k=>R5 (by omega)
 refine⟨by simp_all,by omega,by omega,fun _=>by omega,fun k h1 h2=>?_,fun j k h1 h2=>?_,fun k h1=>?_,fun _ k h1 h2=>?_,fun d=>?_⟩
 ·grind[cases MergeI]
 ·rw[hg,hg,if_neg (by omega)];by_cases e:k=n
  ·rw[if_pos e];rcases hn with hn|hn
   ·omega
   ·by_cases e2:j=n-1
    ·simp_all
    ·have h3:=h.gap j (n-1) (by omega) (by omega);grind[cases MergeI]
  ·grind[cases MergeI]
 ·rw[hg];by_cases e:k=n
  ·simp_all
  ·grind[cases MergeI]
 ·rw[hg,if_pos (by omega)];exact hs.at (by omega) h2
 ·rw[D6 (by grind),hg,if_pos rfl,uZ (af _),AJ,<-h.mem d,E1 hi,eu,eu,m9];grind
theorem MergeI.join{l cur:List PSpan}{n i:Nat}(h:MergeI l cur n i)(hi:i<l.length)(hs:sm l)(hok:∀k,k<l.length->0<=(gD l k).from_/\(gD l k).from_<(gD l k).to/\(gD l k).to<=1048577)
  (hn:0<n)(hle:(gD cur i).from_<=(gD cur (n-1)).to)(x:Int)(hx:x=C3 (gD cur (n-1)).to (gD cur i).to):MergeI l (cur.set (n-1) ⟨(gD cur (n-1)).from_,x⟩) n (i+1):=by
 rw[h.rest i (af _) hi]at hle;rw[h.rest i (af _) hi,Ei]at hx;have hl:=h.le;have hcl:=h.len;have hg:∀k,gD (cur.set (n-1) ⟨(gD cur (n-1)).from_,x⟩) k=if k=n-1 then⟨(gD cur (n-1)).from_,x⟩else gD cur k:=fun k=>R5 (by omega)
 have h4:=h.ok (n-1) (by omega);have h5:=hok i hi;have h6:=h.last hn i (af _) hi;refine⟨by simp_all,by omega,by omega,fun _=>hn,fun k h1 h2=>?_,fun j k h1 h2=>?_,fun k h1=>?_,fun _ k h1 h2=>?_,fun d=>?_⟩
 ·grind[cases MergeI]
 ·rw[hg,hg,if_neg (by omega)];by_cases e:k=n-1
  ·grind[cases MergeI]
  ·grind[cases MergeI]
 ·rw[hg];by_cases e:k=n-1
  ·grind
  ·grind[cases MergeI]
 ·grind[cases MergeI]
 ·obtain⟨m,rfl⟩:∃m,n=m+1:=⟨n-1,by omega⟩
  simp only[Nat.add_sub_cancel]at *;rw[D6 (by grind),hg,if_pos rfl,uZ (af _),AJ,<-h.mem d,E1 hi,eu (gD l i),D6 (by omega),AJ,eu,eu,m9,Bool.or_false,Bool.or_false];grind
theorem MergeI.nrm{l cur:List PSpan}{n i:Nat}(h:MergeI l cur n i):NrmS (cur.take n):=by
 have hl:=h.le;have hcl:=h.len;have hil:=h.il;have hlen:(cur.take n).length=n:=by grind
 have hg:∀k (hk:k<(cur.take n).length),(cur.take n)[k]=gD cur k:=fun k hk=>by rw[List.getElem_take];unfold gD List.getD;grind
 refine⟨?_,fun s hs=>?_⟩;all_goals grind[List.pairwise_iff_getElem,List.getElem_of_mem,cases MergeI]
theorem MergeI.done{l cur:List PSpan}{n i:Nat}(h:MergeI l cur n i)(hi:l.length<=i)(d:Int):memB (cur.take n) d=memB l d:=by rw[<-h.mem d,Fm hi,m9,Bool.or_false]
theorem S1{l l':List PSpan}(hp:l'.Perm (ji l)):∀k,k<l'.length->0<=(gD l' k).from_/\(gD l' k).from_<(gD l' k).to/\(gD l' k).to<=1048577:=fun k hk=>Bq (hp.mem_iff.1 (dZ hk))
noncomputable def jJ(l:List PSpan):List PSpan:=nf (memB l)
theorem GI{l r:List PSpan}(h:NrmS r)(hm:∀d,memB r d=memB (ji l) d):r=jJ l:=RQ h fun d=>by grind[Dn]
theorem OK{l:List PSpan}(h:ji l=[]):[]=jJ l:=GI yj fun d=>by grind
theorem KC{zs:List Int}(hs:zs.Pairwise fun a b=>a<=b):(ba zs).Pairwise (fun a b=>a<b)/\∀z,z∈ba zs↔z∈zs:=by
 generalize hd:zs.toArray=d;have hsz:d.size=zs.length:=by grind
 have hx:∀j (hj:j<zs.length),d[j]! =zs[j]:=fun j hj=>by grind
 have mono:∀i j,i<=j->j<zs.length->d[i]!<=d[j]!:=fun i j hij hj=>by
  rcases fm i j with q|q
  ·rw[hx i (by omega),hx j hj];exact Fo.1 hs i j (by omega) hj q
  grind
 have key:∀m,m<=zs.length->(Lib.compactUpTo d m).Pairwise (fun a b=>a<b)/\(∀z,z∈Lib.compactUpTo d m->∃j,j<m/\z=d[j]!)/\∀j,j<m->d[j]!∈Lib.compactUpTo d m:=by
  intro m;induction m with
  |zero=>simp_all[Lib.compactUpTo]
  | succ m ih=>
   intro hm;obtain⟨h1,h2,h3⟩:=ih (by omega);rw[Lib.compactUpTo_succ];cases hk:Lib.keeps d m with
   | true=>
    simp only[if_true];have hk':m=0\/d[m]!≠d[m-1]!:=by grind[Lib.keeps]
    refine⟨List.pairwise_append.2 ⟨h1,by simp,fun a ha b hb=>?_⟩,fun z hz=>?_,fun j hj=>?_⟩
    ·obtain⟨j,hj,rfl⟩:=h2 a ha;have hb:b=d[m]!:=by simp_all
     subst hb;have e1:=mono j (m-1) (by omega) (by omega);have e2:=mono (m-1) m (by omega) (by omega);omega
    all_goals grind
   |false=>
    simp only[fN,if_false,ef];have hk':¬(m=0\/d[m]!≠d[m-1]!):=by grind[Lib.keeps]
    grind
 obtain⟨h1,h2,h3⟩:=key zs.length (af _);have e:ba zs=Lib.compactUpTo d zs.length:=by grind[ba,Lib.compact]
 rw[e];refine⟨h1,fun z=>⟨fun hz=>?_,fun hz=>?_⟩⟩
 ·grind
 ·obtain⟨j,hj,rfl⟩:=CY hz;simp_all
theorem NrmS.at{l:List PSpan}(h:NrmS l){j k:Nat}(hjk:j<k)(hk:k<l.length):(gD l j).to<(gD l k).from_:=by
 have:=Fo.1 h.gap j k (by omega) hk hjk;grind[gD]
theorem NrmS.okAt{l:List PSpan}(h:NrmS l){k:Nat}(hk:k<l.length):0<=(gD l k).from_/\(gD l k).from_<(gD l k).to/\(gD l k).to<=1048577:=h.ok _ (dZ hk)
theorem UH{l:List PSpan}{d:Int}:memB l d=true↔∃k,k<l.length/\(gD l k).from_<=d/\d<(gD l k).to:=by
 rw[jf];constructor
 ·rintro⟨s,h1,h2⟩
  obtain⟨k,hk,e⟩:=CY h1;have:gD l k=s:=by grind[gD]
  grind
 grind[dZ]
theorem Dl {a b:Int}:ay (kQ a b) 0=true↔a=b:=by
 unfold kQ;cases h:aB a b with
 | true => have:=aA h;constructor
           ·intro h;cases h
           omega
 |false=>
  have:=aF h;cases h2:aB b a with
  | true => have:=aA h2;constructor
            ·intro h;cases h
            omega
  |false=>have:=aF h2;exact⟨fun _=>by omega,fun _=>rfl⟩
theorem UG{l:List PSpan}(h:NrmS l)(d:Int):iD l d=memB l d:=by
 have hi:=BU (d:=d) h.sort;have hc:=FQ l d;rw[DN,UH];unfold iD JP;simp only[tC,bz];constructor
 ·rintro(⟨h1,h2⟩|⟨h1,h2⟩)
  ·have h1:=aA h1;simp only[aM]at h1;have h2:=Dl.1 h2;have:=h.okAt (k:=oW l d) (by omega);grind
  ·have h1:=aA h1;have h2:=aA h2;simp only[aM]at h1;have h3:=aA ((hi (oW l d-1) (by omega)).2 (by omega));grind
 ·rintro⟨k,hk,h1,h2⟩
  by_cases e:(gD l k).from_=d
  ·left;have e1:¬k<oW l d:=fun q=>by have:=aA ((hi k hk).2 q);omega
   have e2:¬oW l d<k:=fun q=>by
    have h3:=h.at q hk;have h4:=h.okAt (k:=oW l d) (by omega);grind[nQ]
   have e3:oW l d=k:=by omega
   rw[e3];exact⟨nQ (by simp_all),Dl.2 e⟩
  ·right;have e1:k<oW l d:=(hi k hk).1 (nQ (by omega));have e2:¬k+1<oW l d:=fun q=>by
    have h3:=h.at (j:=k) (k:=k+1) (by omega) (by omega);have:=aA ((hi (k+1) (by omega)).2 q);omega
   grind[nQ]
def pn(l:List PSpan):List Int:=l.flatMap fun s=>[s.from_,s.to]
theorem De(s:PSpan)(r:List PSpan):pn (s::r)=[s.from_,s.to]++pn r:=by simp[pn]
theorem ki:∀(l:List PSpan),(pn l).length=2*l.length
 |[]=>rfl
 |s::r=>by rw[De];simp[ki r];omega
theorem HS{l:List PSpan}{s:PSpan}(h:s∈l):s.from_∈pn l/\s.to∈pn l:=by
 unfold pn;grind
def kY(g:Int->Bool):List Int->List PSpan
 |[]=>[]
 | a::r=>match r with
  |[]=>[]
  |b::_=>match g a with
   |true=>⟨a,b⟩::kY g r
   |false=>kY g r
theorem Gk(g:Int->Bool)(a b:Int)(r:List Int):kY g (a::b::r)=match g a with|true=>⟨a,b⟩::kY g (b::r)|false=>kY g (b::r):=by rw[kY]
def sd:Int->List Int->Int
 |a,[]=>a
 |_,b::r=>sd b r
theorem Ab:∀{r:List Int}{a:Int},(a::r).Pairwise (fun a b=>a<b)->a<=sd a r/\∀z,z∈r->z<=sd a r
 |[],a,_=>⟨Int.le_refl _,fun z h=>by grind⟩
 |b::r,a,h=>by
  obtain⟨h1,h2⟩:=jH.1 h;have h3:=h1 b (eR ..);obtain⟨k1,k2⟩:=Ab h2;grind[sd]
theorem Gw{g:Int->Bool}{C:List Int}(hg:∀x y,(∀z,z∈C->z<=x\/y<=z)->∀d,x<=d->d<y->g d=g x):
  ∀(r:List Int)(a:Int),(a::r).Pairwise (fun a b=>a<b)->(∀z,z∈C->z<=a\/z∈r)->∀d,memB (kY g (a::r)) d=(decide (a<=d/\d<sd a r)&&g d)
 |[],a,_,_,d=>by
  have:decide (a<=d/\d<sd a [])=false:=by grind[sd]
  rw[this];rfl
 | b::r,a,hp,hC,d=>by
  obtain⟨h1,h2⟩:=jH.1 hp;have hab:=h1 b (eR ..);obtain⟨hb2,h3⟩:=jH.1 h2;have hl:=(Ab h2).1;have ih:=Gw hg r b h2 (fun z hz=>by grind) d;have hc:∀d,a<=d->d<b->g d=g a:=hg a b fun z hz=>by grind
  have e0:memB (kY g (a::b::r)) d=((g a&&decide (a<=d/\d<b))||memB (kY g (b::r)) d):=by
   rw[Gk];cases g a with
   |true=>rw[eu,Bool.true_and]
   |false=>simp_all
  rw[e0,ih,show sd a (b::r)=sd b r from rfl];grind
def iy(A:List PSpan):List Int:=ba (dL (pn A))
theorem NK(A:List PSpan):(iy A).Pairwise (fun a b=>a<b)/\∀z,z∈iy A↔z∈pn A:=by
 obtain⟨h1,h2⟩:=KC (EQ (pn A));exact⟨h1,fun z=>(h2 z).trans (lQ (pn A)).mem_iff⟩
theorem AW{A l:List PSpan}(hl:∀s,s∈l->s∈A){x y:Int}(hz:∀z,z∈iy A->z<=x\/y<=z){d:Int}(h1:x<=d)(h2:d<y):memB l d=memB l x:=by
 have key:∀s,s∈l->((s.from_<=d/\d<s.to)↔(s.from_<=x/\x<s.to)):=fun s hs=>by
  obtain⟨k1,k2⟩:=HS (hl s hs);grind[NK]
 rw[DN,jf,jf];grind
theorem NG{op:Bool->Bool->Bool}(h0:op false false=false)(A B:List PSpan)(d:Int):memB (kY (fun d=>op (memB A d) (memB B d)) (iy (A++B))) d=op (memB A d) (memB B d):=by
 obtain⟨h1,h2⟩:=NK (A++B);have out:∀(z1 z2:Int),(∀z,z∈iy (A++B)->z1<=z/\z<=z2)->¬(z1<=d/\d<z2)->op (memB A d) (memB B d)=false:=fun z1 z2 hz hd=>by
  have no:∀l:List PSpan,(∀s,s∈l->s∈A++B)->memB l d=false:=fun l hl=>by
   cases q:memB l d with
   |false=>rfl
   |true=>
    obtain⟨s,k1,k2,k3⟩:=jf.1 q;obtain⟨k4,k5⟩:=HS (hl s k1);grind
  simp_all
 cases hC:iy (A++B)with
 |nil=>
  rw[kY,m9];exact(out (d+1) d (fun z hz=>by grind) (by omega)).symm
 | cons a r=>
  rw[hC]at h1;have hl:=Ab h1;have hp:=(jH.1 h1).1;rw[Gw (C:=iy (A++B)) (fun x y hz d h3 h4=>by
   show op (memB A d) (memB B d)=op (memB A x) (memB B x)
   rw[AW (A:=A++B) (fun s hs=>yE _ hs) hz h3 h4,AW (A:=A++B) (fun s hs=>tg _ hs) hz h3 h4]) r a h1 (fun z hz=>by
   grind) d]
  by_cases q:a<=d/\d<sd a r;all_goals grind
theorem BZ(A:List PSpan):(iy A).length<=2*A.length:=by
 have:=xo (dL (pn A));have h2:=(lQ (pn A)).length_eq;grind[ki,iy]
theorem CA{g:Int->Bool}{C:List Int}{x:Nat}(h1:1<=x)(h2:x<C.length):kY g (C.drop (x-1))=match g (gD C (x-1))with|true=>⟨gD C (x-1),gD C x⟩::kY g (C.drop (x+1-1))|false=>kY g (C.drop (x+1-1)):=by grind[E1,Gk]
theorem lw{g:Int->Bool}{C:List Int}{x:Nat}(h1:1<=x)(h2:C.length<=x):kY g (C.drop (x-1))=[]:=by
 have:(C.drop (x-1)).length<=1:=by simp_all
 match C.drop (x-1),this with
 |[],_=>rfl
 |[_],_=>rfl
 |_::_::_,h=>simp_all
noncomputable def sl(op:Bool->Bool->Bool)(a b:List PSpan):List PSpan:=nf fun d=>op (memB a d) (memB b d)
theorem mA(l:List PSpan):NrmS (jJ l):=zR _
theorem C0(l:List PSpan)(d:Int):memB (jJ l) d=(Ph d&&memB l d):=JA _ d
theorem PQ{op:Bool->Bool->Bool}(h0:op false false=false){a b A B:List PSpan}(hA:jJ a=A)(hB:jJ b=B):jJ (kY (fun d=>op (iD A d) (iD B d)) (iy (A++B)))=sl op a b:=by
 have nA:NrmS A:=hA▸mA a;have nB:NrmS B:=hB▸mA b;have e:(fun d=>op (iD A d) (iD B d))=fun d=>op (memB A d) (memB B d):=funext fun d=>by grind[UG]
 rw[e];unfold jJ sl;refine RZ fun d hd=>?_
 rw[NG h0,<-hA,<-hB,C0,C0,hd,Bool.true_and,Bool.true_and]
section
variable{H:Type}{enc:TypeId×Value->H}{P:Program}{w:World}{base:Nat}{spare:Nat->Bool}{held:Bool}
inductive VL(M:dl):List AV->List Value->Prop
 |nil:VL M [] []
 |cons {x:AV} {v:Value} {xs:List AV} {vs:List Value} (h:VRel (fun _=>none) M x v) (t:VL M xs vs):VL M (x::xs) (v::vs)
theorem VL.append{M:dl}{xs ys:List AV}{a b:List Value}(h:VL M xs a)(k:VL M ys b):VL M (xs++ys) (a++b):=by
 induction h with
 |nil=>grind
 |cons h _ ih=>exact .cons h ih
theorem VL.len{M:dl}{xs:List AV}{a:List Value}(h:VL M xs a):xs.length=a.length:=by
 induction h with
 |nil=>rfl
 |cons _ _ ih=>simp_all
theorem VL.at_{M:dl}{xs:List AV}{a:List Value}(h:VL M xs a):∀(j:Nat)(y:AV),xs[j]?=some y->∃v,a[j]?=some v/\VRel (fun _=>none) M y v:=by
 induction h with
 |nil=>simp_all
 |cons h _ ih=>grind
theorem VL.one{M:dl}{x:AV}{cs:List Value}(h:VL M [x] cs):∃v,cs=[v]/\VRel (fun _=>none) M x v:=by
 cases h with
 |cons h t=>cases t;simp_all
def Wt(P:Program)(t:TypeId)(d:DataW H):Prop:=∀m,m∈d.weights P t->m<=reachBytes
theorem qj{e:TypeId}{d:DataW H}{m:Nat}(hm:m∈d.weights P e):∀{l:List (DataW H)},d∈l->m∈DataW.weightsAll P e l
 |[],h=>by grind
 |a::r,h=>by
  unfold DataW.weightsAll;rcases dO.1 h with rfl|h
  ·simp_all
  ·exact tg _ (qj hm h)
theorem jl{t:TypeId}{d:DataW H}{m:Nat}(hm:m∈d.weights P t):∀{ts:List TypeId}{l:List (DataW H)}(i:Nat),ts[i]?=some t->l[i]?=some d->m∈DataW.weightsEach P ts l
 |[],_,i,h,_=>by simp_all
 |_::_,[],i,_,h=>by simp_all
 |u::ts,a::r,i,h1,h2=>by
  unfold DataW.weightsEach;cases i with
  |zero=>simp_all
  |succ i=>exact tg _ (jl hm i (by simp_all) (by simp_all))
def E9(P:Program):List Field->Nat->Nat->Bool
 |[],off,n=>Nat.beq off n
 |f::r,off,n=>Nat.beq f.offset off&&E9 P r (off+P.cellsOf f.type) n
def VF(M:dl)(P:Program)(cs:List Value):List Field->List (List AV)->Prop
 |[],[]=>True
 |f::fs,xs::xss=>VL M xs ((cs.drop f.offset).take (P.cellsOf f.type))/\VF M P cs fs xss
 |_,_=>False
theorem VF.vl{M:dl}{cs:List Value}:∀{fs:List Field}{xss:List (List AV)}{off:Nat},E9 P fs off cs.length=true->VF M P cs fs xss->VL M xss.flatten (cs.drop off)
 |[],[],off,h,_=>by
  have:=pF h;rw[this,List.drop_length];exact .nil
 |[],_::_,_,_,h=>h.elim
 |_::_,[],_,_,h=>h.elim
 |f::fs,xs::xss,off,h,k=>by
  unfold E9 at h;rw[bz]at h;have ho:=pF h.1;have h1:=k.1;rw[ho]at h1;have h2:=VF.vl h.2 k.2;have e:cs.drop off=(cs.drop off).take (P.cellsOf f.type)++cs.drop (off+P.cellsOf f.type):=by grind[List.drop_drop,List.take_append_drop]
  rw[List.flatten_cons,e];exact h1.append h2
def TF(enc:TypeId×Value->H)(P:Program)(w:World)(base:Nat)(spare:Nat->Bool)(held:Bool)(n:Nat)(cs:List Value):List Field->Prop
 |[]=>True
 |f::fs=>(∃d p,DataW.trod enc P w base spare held n f.type ((cs.drop f.offset).take (P.cellsOf f.type))=some (d,p)/\Wt P f.type d)/\TF enc P w base spare held n cs fs
theorem XW{n:Nat}{cs:List Value}:∀(fs:List Field),(∀(i:Nat)(f:Field),fs[i]?=some f->∃d p,DataW.trod enc P w base spare held n f.type ((cs.drop f.offset).take (P.cellsOf f.type))=some (d,p)/\Wt P f.type d)->TF enc P w base spare held n cs fs
 |[],_=>trivial
 |f::fs,h=>⟨h 0 f rfl,XW fs fun i g hg=>h (i+1) g (by simp_all)⟩
theorem i9{t:TypeId}{fs:Array Field}{fuel:Nat}{cs:List Value}{d:DataW H}{p:List MemPlace}(hu:P.underlying t=some (.struct fs))(hc:E9 P fs.toList 0 (P.cellsOf t)=true)
  (h:DataW.trod enc P w base spare held fuel t cs=some (d,p))(hw:Wt P t d):
  ∃n,fuel=n+1/\TF enc P w base spare held n cs fs.toList/\∀xss,VF (cX w) P cs fs.toList xss->VL (cX w) xss.flatten cs:=by
 obtain⟨xs,n,rfl,h1,h2,h3,h4⟩:=DataW.trod_struct hu h;simp only[tu]at h1;obtain⟨rfl,_⟩:=h1;refine⟨n,rfl,XW _ fun i f hf=>?_,fun xss hx=>?_⟩
 ·have hf':fs[i]?=some f:=by simp_all
  have hi:i<xs.length:=by grind
  have e:=h4 i f hf';rw[kE hi]at e;refine⟨xs[i].1,xs[i].2,e,fun m hm=>hw m ?_⟩;unfold DataW.weights;rw[hu];exact jl hm i (by simp_all) (by grind)
 ·have:=VF.vl (off:=0) (by simp_all) hx;simp_all
theorem iz{t:TypeId}{fuel:Nat}{cs:List Value}{d:DataW H}{p:List MemPlace}(hu:P.underlying t=some (.int .i64))(h:DataW.trod enc P w base spare held fuel t cs=some (d,p)):∃x,VL (cX w) [.int .i64 x] cs:=by
 obtain⟨x,rfl,_⟩:=DataW.trod_int hu h;exact⟨x,.cons (.int _ _) .nil⟩
theorem n4{t:TypeId}{fuel:Nat}{cs:List Value}{d:DataW H}{p:List MemPlace}(hu:P.underlying t=some .string)(h:DataW.trod enc P w base spare held fuel t cs=some (d,p)):∃s,VL (cX w) [.str s] cs:=by
 obtain⟨⟨⟨s⟩⟩,rfl,_⟩:=DataW.trod_string hu h;exact⟨s,.cons (.str _) .nil⟩
theorem L7{α:Type}{Q:Nat->α->Prop}:∀(n:Nat),(∀i,i<n->∃x,Q i x)->∃l:List α,l.length=n/\∀i x,l[i]?=some x->Q i x
 |0,_=>⟨[],rfl,fun i x h=>by simp_all⟩
 |n+1,h=>by
  obtain⟨l,h1,h2⟩:=L7 n fun i hi=>h i (by omega)
  obtain⟨y,hy⟩:=h n (by omega);refine⟨l++[y],by simp_all,fun i x hx=>?_⟩;grind
theorem aaG{x:AV}(h:x.cells.all cN=true):Sc x:=fun y hy=>mw.1 h y hy
theorem Jz{α:Type}(el:α->AV)(fit:α->Prop){t e:TypeId}{fuel:Nat}{cs:List Value}{d:DataW H}{p:List MemPlace}(hu:P.underlying t=some (.slice e))(hsz:Nat.blt 0 (P.cellsOf e)=true)(hby:Nat.blt 0 (P.bytesOf e)=true)
  (hel:∀x,(el x).cells.length=P.cellsOf e)(hsc:∀x,(el x).cells.all cN=true)(htop:∀x,(el x).top=0)
  (hrec:∀m,m<fuel->∀cs d p,DataW.trod enc P w base spare held m e cs=some (d,p)->Wt P e d->∃x,fit x/\VL (cX w) (el x).cells cs)
  (h:DataW.trod enc P w base spare held fuel t cs=some (d,p))(hw:Wt P t d):
  ∃l:List α,l.length<2^47/\(∀x,x∈l->fit x)/\VL (cX w) [.ls (l.map el)] cs:=by
 rw[dm]at hsz hby;simp only[decide_eq_true_eq]at hsz hby;rcases DataW.trod_slice hu h with⟨rfl,_⟩|⟨a,len,cap,elems,rest,n,rfl,rfl,h1,h2,h3,h4,h5,h6,_,_⟩
 ·exact⟨[],Nat.two_pow_pos 47,fun x h=>absurd h (List.not_mem_nil),.cons .lsn .nil⟩
 ·simp only[tu]at h1;obtain⟨rfl,_⟩:=h1;have hwl:len<2^47:=by
   have:=hw ((elems.length+rest.length)*P.bytesOf e) (by grind[DataW.weights]);have h7:elems.length<=(elems.length+rest.length)*P.bytesOf e:=bO (Nat.le_add_right _ _) (Nat.le_mul_of_pos_right _ hby);have:elems.length<=reachBytes:=bO h7 this;rw[h5]at this;exact nF this (by decide)
  have el0:∀i,i<len->∃x,fit x/\∃cs:List Value,cs.length=P.cellsOf e/\(∀j,j<P.cellsOf e->w.cell? ((a.add (i*P.cellsOf e)).add j)=cs[j]?)/\VL (cX w) (el x).cells cs:=by
   intro i hi;have k5:=h6 i hi;have hi':i<elems.length:=by omega
   rw[kE hi']at k5;simp only[Option.bind_eq_some_iff]at k5;obtain⟨cs,c1,c2⟩:=k5;obtain⟨z1,z2⟩:=Dp c1;obtain⟨x,f1,f2⟩:=hrec n (by omega) cs elems[i].1 elems[i].2 c2 (fun m hm=>hw m (by
    unfold DataW.weights;rw[hu];exact eC _ (yE _ (qj hm (gn.2 ⟨elems[i],DM hi',rfl⟩)))))
   grind
  obtain⟨l,q1,q2⟩:=L7 len el0;refine⟨l,by omega,fun x hx=>?_,.cons ?_ .nil⟩
  ·obtain⟨i,hi⟩:=FB.1 hx;grind
  ·have q1':(l.map el).length=len:=by simp_all
   generalize hys:l.map el=ys at *;have q3:∀i y,ys[i]?=some y->∃cs:List Value,cs.length=P.cellsOf e/\(∀j,j<P.cellsOf e->w.cell? ((a.add (i*P.cellsOf e)).add j)=cs[j]?)/\VL (cX w) y.cells cs:=by grind
   have q4:∀y,y∈ys->y.cells.length=P.cellsOf e/\Sc y:=by grind[aaG]
   have q5:aq ys=0:=by grind[aX]
   have addadd:∀i j:Nat,a.spot=none->(a.add i).add j=⟨a.block,a.off+i+j,none⟩:=by
    intro i j hs;obtain⟨blk,off,spot⟩:=a;grind[Addr.add]
   have spot:ys≠[]->a.spot=none:=by
    intro hne;obtain⟨x,hx⟩:∃x,ys[0]?=some x:=by
     cases ys with
     |nil=>simp_all
     |cons x r=>exact⟨x,rfl⟩
    grind[rH,Addr.add]
   have cell:∀(i j:Nat)(x:AV),ys[i]?=some x->j<P.cellsOf e->∃c v,cX w a.block=some c/\c[a.off+i*P.cellsOf e+j]?=some v/\∀y,x.cells[j]?=some y->VRel (fun _=>none) (cX w) y v:=by
    intro i j x hx hj;obtain⟨cs,c1,c2,c3⟩:=q3 i x hx;have:=c2 j hj;rw[kE (by omega),addadd _ _ (spot (by grind))]at this;obtain⟨_,c,m1,m2⟩:=rH this;refine⟨c,_,m1,m2,fun y hy=>?_⟩;obtain⟨v,g1,g2⟩:=c3.at_ j y hy;simp_all
   refine .lsp ?_ q5;by_cases hne:ys=[]
   ·subst hne;simp at q1';subst q1';exact .ps (sz:=P.cellsOf e) (c:=#[]) (by simp) (fun h=>by grind) (fun h=>absurd rfl h) (fun x h=>by simp_all) (fun i x j y h=>by simp_all)
   ·have hlen:0<ys.length:=qU.2 hne;obtain⟨x0,hx0⟩:∃x,ys[ys.length-1]?=some x:=⟨ys[ys.length-1],by simp⟩
    obtain⟨c,v0,m1,m2,_⟩:=cell (ys.length-1) (P.cellsOf e-1) x0 hx0 (by omega);have hc:=(sW.1 m2).1;have hfit:a.off+ys.length*P.cellsOf e<=c.size:=by
     have h1:(ys.length-1)*P.cellsOf e+P.cellsOf e=ys.length*P.cellsOf e:=by rw[<-qz];grind
     omega
    have:=VRel.ps (pl:=fun _=>none) (M:=cX w) (xs:=ys) (tight:=false) (a:=a) (cap:=cap) (sz:=P.cellsOf e) (c:=c) (by omega) (fun h=>by grind) (fun _=>⟨spot hne,m1,hfit,hsz⟩) q4
     (fun i x j y hx hy=>by
      obtain⟨r1,_⟩:=q4 x (bh hx);have hj:j<P.cellsOf e:=by grind
      obtain⟨c',v,n1,n2,n3⟩:=cell i j x hx hj;simp_all)
    simp_all
theorem lm{α:Type}(el:α->AV)(fit:α->Prop){t e:TypeId}{fuel:Nat}{cs:List Value}{d:DataW H}{p:List MemPlace}(hu:P.underlying t=some (.slice e))(hsz:Nat.blt 0 (P.cellsOf e)=true)(hby:Nat.blt 0 (P.bytesOf e)=true)
  (hel:∀x,(el x).cells.length=P.cellsOf e)(hsc:∀x,(el x).cells.all cN=true)(htop:∀x,(el x).top=0)
  (hrec:∀m,m<fuel->∀cs d p,DataW.trod enc P w base spare held m e cs=some (d,p)->Wt P e d->∃x,fit x/\VL (cX w) (el x).cells cs)
  (h:DataW.trod enc P w base spare held fuel t cs=some (d,p))(hw:Wt P t d):
  ∃l:List α,l.length<2^60/\(∀x,x∈l->fit x)/\VL (cX w) [.ls (l.map el)] cs:=by
 have⟨l,h1,h2⟩:=Jz el fit hu hsz hby hel hsc htop hrec h hw;grind
end
structure PPair where
 a:Int
 b:Int
deriving Inhabited,DecidableEq
def fk(p:PPair):AV:=.agg [.int .i64 p.a,.int .i64 p.b]
theorem W0(p:PPair):(fk p).top=0:=rfl
structure PRef where
 act:Int
 item:Int
deriving Inhabited,DecidableEq
def bf(p:PRef):AV:=.agg [.int .i64 p.act,.int .i64 p.item]
theorem Yt(p:PRef):(bf p).top=0:=rfl
def bJ(u:TUnit):List PWord:=u.head++u.words
mutual
def nh:TUnit->List PWord
 |⟨_,_,_,_,_,h,w,ks⟩=>(h++w)++kN ks
def kN:List TUnit->List PWord
 |[]=>[]
 |k::r=>nh k++kN r
end
theorem Nc(u:TUnit):nh u=bJ u++kN u.kids:=by obtain⟨a,b,c,d,e,h,w,ks⟩:=u;rw[nh];rfl
theorem DH:kN []=[]:=by rw[kN]
theorem tw(k:TUnit)(r:List TUnit):kN (k::r)=nh k++kN r:=by rw[kN]
def abk(k:Int)(m:List (Int×Int)):Int:=(gh k m).getD 0
def abh(m:List (Int×Int))(w:PWord):List (Int×Int):=jc w.act (abk w.act m+1) m
def tally(ws:List PWord)(m:List (Int×Int)):List (Int×Int):=ws.foldl abh m
def sX(m:List (Int×Int)):Prop:=(m.map (·.1)).Nodup
theorem ot{k:Int}:∀{m:List (Int×Int)},gh k m=none->¬k∈m.map (·.1)
 |[],_=>by simp
 | (i,x)::r,h=>by
  simp only[gh]at h;cases e:ay k i with
  |true=>grind
  |false=>
   rw[e]at h;have:=ot h;grind[HN]
theorem Ct(j v:Int):∀(m:List (Int×Int)),(jc j v m).map (·.1)=if j∈m.map (·.1)then m.map (·.1)else m.map (·.1)++[j]
 |[]=>by simp[jc]
 | (i,x)::r=>by
  simp only[jc];by_cases h:j=i
  ·grind[bQ]
  ·have e:ay j i=false:=by grind[pg]
   simp only[e,eg,Ct j v r,dO,h,false_or];grind
theorem sX.set{m:List (Int×Int)}(h:sX m)(j v:Int):sX (jc j v m):=by grind[sX,Ct]
theorem sX.tally:∀(ws:List PWord){m:List (Int×Int)},sX m->sX (tally ws m)
 |[],_,h=>h
 |w::r,_,h=>sX.tally r (h.set _ _)
theorem sX.nil:sX []:=List.nodup_nil
def Pb(l:List PPair):Prop:=l.Pairwise (fun x y=>x.a<y.a)
theorem Pb.unique:∀{l m:List PPair},Pb l->Pb m->(∀p,p∈l↔p∈m)->l=m
 |[],[],_,_,_=>rfl
 |[],y::m,_,_,h=>absurd ((h y).2 (eR ..)) (by simp)
 |x::l,[],_,_,h=>absurd ((h x).1 (eR ..)) (by simp)
 |x::l,y::m,hl,hm,h=>by
  have hl':=jH.1 hl;have hm':=jH.1 hm;have e:x=y:=by grind
  subst e;congr 1;refine Pb.unique hl'.2 hm'.2 fun p=>?_
  grind
def pJ(p:Int×Int):PPair:=⟨p.1,p.2⟩
def lk(ws:List PWord):List PPair:=((tally ws []).map pJ).mergeSort fun x y=>decide (x.a<=y.a)
theorem wS{m:List (Int×Int)}(h:sX m):(m.map pJ).Pairwise (fun x y=>x.a≠y.a):=by
 unfold sX at h;rw[List.nodup_iff_pairwise_ne,List.pairwise_map]at h;rw[List.pairwise_map];exact h
theorem LB{l:List PPair}(h1:l.Pairwise (fun x y=>x.a<=y.a))(h2:l.Pairwise (fun x y=>x.a≠y.a)):Pb l:=(h1.and h2).imp fun{x y} h=>by omega
theorem LG{l m:List PPair}(h:l.Perm m)(hm:m.Pairwise (fun x y=>x.a≠y.a)):l.Pairwise (fun x y=>x.a≠y.a):=(h.pairwise_iff (fun{x y} h e=>h e.symm)).2 hm
theorem GU(ws:List PWord):Pb (lk ws):=by
 refine LB ?_ (LG (List.mergeSort_perm ..) (wS (sX.tally ws sX.nil)));have:=List.pairwise_mergeSort (le:=fun(x y:PPair)=>decide (x.a<=y.a)) (fun a b c h1 h2=>by grind) (fun a b=>by grind) ((tally ws []).map pJ);exact this.imp fun{x y} h=>by simp_all
theorem wL{ws:List PWord}{l m:List PPair}(h:l.Perm m)(hm:m.Perm ((tally ws []).map pJ))(hs:l.Pairwise (fun x y=>x.a<=y.a)):l=lk ws:=
 (LB hs (LG (h.trans hm) (wS (sX.tally ws sX.nil)))).unique (GU ws) fun p=>by grind[lk,List.mergeSort_perm]
theorem qB:∀(n:Nat)(s:List Nat),s.Nodup->(∀i,i∈s->i<n)->s.length<=n
 |0,s,_,h=>by
  cases s with
  |nil=>simp_all
  |cons x r=>grind[List.mem_cons_self]
 |n+1,s,hs,h=>by
  have h1:=qB n (s.erase n) (hs.erase n) fun i hi=>by grind
  grind
theorem Ty{n:Nat}{s:List Nat}(hs:s.Nodup)(h:∀i,i∈s->i<n)(hd:∀i,i<n->i∈s):s.Perm (List.range n):=(List.perm_ext_iff_of_nodup hs List.nodup_range).2 fun i=>⟨fun hi=>List.mem_range.2 (h i hi),fun hi=>hd i (List.mem_range.1 hi)⟩
theorem NR{α:Type}[Inhabited α](l:List α):(List.range l.length).map (gD l)=l:=by
 refine List.ext_getElem (by simp) fun i h1 h2=>?_
 grind[gD]
theorem zN{s:List Nat}{i:Nat}(h:s.Nodup)(hi:¬i∈s):(s++[i]).Nodup:=by grind
section
variable{u w':TUnit}{ws:List PWord}{w:PWord}{r:List PWord}{ks:List TUnit}{m x:List (Int×Int)}{c B:Int}
end
theorem VRel.ls0{pl:Pl}{M:dl}{x:Value}(h:VRel pl M (.ls []) x):VRel pl M .nils x\/VRel pl M (.ps [] false) x:=by
 cases h with
 |lsn=>exact .inl .nils
 |lsp h _=>simp_all
theorem VRel.agg0{pl:Pl}{M:dl}{pre post:List AV}{x:Value}(h:VRel pl M (.agg (pre++.ls []::post)) x):VRel pl M (.agg (pre++.nils::post)) x\/VRel pl M (.agg (pre++.ps [] false::post)) x:=by
 have h':=h;cases h' with
 | agg h1 h2 h3=>
  rcases(h3 pre.length (.ls []) (by simp)).ls0 with k|k
  ·left;refine .agg (by simp_all) (fun y hy=>?_) fun j y hj=>?_
   ·rcases fK.1 hy with hy|hy
    ·simp_all
    ·rcases dO.1 hy with rfl|hy
     ·rfl
     simp_all
   ·by_cases e:j=pre.length
    ·grind
    ·refine h3 j y ?_;grind
  ·right;refine .agg (by simp_all) (fun y hy=>?_) fun j y hj=>?_
   ·rcases fK.1 hy with hy|hy
    ·simp_all
    ·rcases dO.1 hy with rfl|hy
     ·rfl
     simp_all
   ·by_cases e:j=pre.length
    ·grind
    ·refine h3 j y ?_;grind
theorem vd{P:Program}{G:eB}{f:FuncId}{a b c:List AV}{h:AHeap}{Ψ:AV->AHeap->Prop}(hs:∀pl M vs,VRels pl M c vs->VRels pl M a vs\/VRels pl M b vs)(h1:aE P G f a h Ψ)(h2:aE P G f b h Ψ):aE P G f c h Ψ:=fun pl M w vs hg hr hv=>(hs pl M vs hv).elim (h1 pl M w vs hg hr) (h2 pl M w vs hg hr)
theorem VRels.first{pl:Pl}{M:dl}{x y z:AV}{r:List AV}{vs:Array Value}(h:VRels pl M (z::r) vs)(hs:∀v,VRel pl M z v->VRel pl M x v\/VRel pl M y v):VRels pl M (x::r) vs\/VRels pl M (y::r) vs:=by
 obtain⟨h1,h2⟩:=h;have lift:∀u,VRel pl M u (vs.getD 0 undef)->VRels pl M (u::r) vs:=fun u hu=>⟨h1,fun j y hj=>by
  cases j with
  |zero=>grind
  |succ j=>simp_all⟩
 exact(hs _ (h2 0 z rfl)).imp (lift x) (lift y)
theorem aL.agg0{P:Program}{G:eB}{f:FuncId}{pre post r:List AV}{v:AV}(h1:aL P G f (.agg (pre++.nils::post)::r) v)(h2:aL P G f (.agg (pre++.ps [] false::post)::r) v):aL P G f (.agg (pre++.ls []::post)::r) v:=fun h=>vd (fun _ _ _ hv=>VRels.first hv fun _ hv=>hv.agg0) (h1 h) (h2 h)
end Go.Ev
namespace Go.Ev
open Go
theorem ar{n b m:Nat}(h1:n<=m)(h2:m<=2^40)(h3:m*b<=2^40):small n b=true:=by
 unfold small;have h4:n*b<=m*b:=eD b h1;grind[Nat.ble_eq_true_of_le]
def ld(p q:PPair):Int:=bif aB p.a q.a then -1 else 1
theorem zD(p q:PPair):decide (ld p q<0)=aB p.a q.a:=by
 unfold ld;grind
theorem Jk{ws:List PWord}{M:List (Int×Int)}{l' out:List PPair}{seen:List Nat}(hM:tally ws []=M)(h1:l'.Perm out)(h2:l'.Pairwise fun x y=>x.a<=y.a)
  (h3:out=seen.map fun i=>pJ (gD M i))(hn:seen.Nodup)(hb:∀i,i∈seen->i<M.length)(hd:∀i,i<M.length->i∈seen):l'=lk ws:=by
 subst hM;refine wL h1 ?_ h2;have h4:=(Ty hn hb hd).map fun i=>pJ (gD (tally ws []) i)
 rw[h3];refine h4.trans (.of_eq ?_);have:=congrArg (List.map pJ) (NR (tally ws []));rw[List.map_map]at this;exact this
theorem Gq{ws:List PWord}{M:List (Int×Int)}(hM:tally ws []=M)(hd:∀i,i<M.length->i∈([]:List Nat)):lk ws=[]:=by
 have e:M=[]:=by
  cases M with
  |nil=>rfl
  |cons x r=>exact absurd (hd 0 (Nat.zero_lt_succ _)) (by simp)
 simp_all[lk]
theorem Qb{seen:List Nat}{i n:Nat}(hn:seen.Nodup)(hb:∀i,i∈seen->i<n)(hi:i<n)(hs:¬i∈seen):seen.length<n:=by
 have:=qB n (seen++[i]) (zN hn hs) (fun j hj=>by grind);grind
def Zm(d:Int):List Int->List Int
 |[]=>[d]
 |x::r=>bif aB x d then x::Zm d r else bif ay x d then x::r else d::x::r
def dr(ws:List PWord)(l:List Int):List Int:=ws.foldl (fun l w=>Zm w.act l) l
def UK{α:Type}:Result α->World
 | .ok _ w=>w
 | .halt _ w=>w
def gW:GStep->World
 | .go _ w _=>w
 | .comm _ _ _ _ w _=>w
 | .spawn _ _ w _=>w
 | .count _ w _=>w
 | .timer _ _ w _=>w
 | .alone _ _ w _=>w
 | .newcoro _ _ _ w _=>w
 | .coroswitch _ _ _ w _=>w
 | .collect _ w _=>w
 | .watch _ w _=>w
 | .ended _ w _=>w
theorem lG(es:Array Event)(g:GStep):gW (GStep.after es g)=gW g:=by cases g<;>rfl
theorem KO{α:Type}:∀(q:Ask α)(w:World),w.drawn<=(w.ask q).2.drawn
 | .done a,w=>af _
 | .ask what range k,w=>by
  rw[World.ask];split
  ·exact KO (k 0) w
  ·exact bO (nG _) (KO _ {w with drawn:=w.drawn+1})
theorem QW(w:World)(c:Sys):w.drawn<=(w.sys c).2.drawn:=by
 unfold World.sys;have h:=KO (Kernel.perform c w.os) w;grind
theorem xF{p:Program}{w w':World}{at_:Addr}{u:TypeId}{k:Addr}{v:Value}{b:Bool}{l:List Addr}(h:w.viewStore p at_ u k v b=.ok (w',l)):w'.drawn=w.drawn:=by
 unfold World.viewStore at h;simp only[bind,Except.bind,pure,Except.pure]at h
 repeat' split at h
 all_goals first|cases h;done|(injection h with h;injection h with h1 h2;rw[<-h1])
theorem AD{p:Program}{w w':World}{a:Addr}{v:Value}{b:Bool}{l:List Addr}(h:w.farStore p a v b=.ok (w',l)):w'.drawn=w.drawn:=by
 unfold World.farStore at h
 repeat' split at h
 all_goals first|cases h;done|grind[xF]
theorem EE(w:World)(a:Addr)(n:Nat):(w.freeze a n).drawn=w.drawn:=by unfold World.freeze;grind
theorem Qd(p:Program){α:Type}(s:Sem α):∀(w:World),w.drawn<=(UK (s.run p w)).drawn:=by
 induction s with
 |pure a=>exact fun w=>af _
 |load m a k ih=>
  intro w;simp only[Sem.run]
  repeat' split
  all_goals first|exact ih _ _|exact af _
 | store m a v k ih=>
  intro w;cases v
  all_goals simp only[Sem.run]
  all_goals first
   |exact af _
   |((repeat' split);all_goals first|exact af _|exact ih (w.setCell _ _)|(rename_i e;refine bO ?_ (ih _);rw[AD e];exact af _))
 |new o k ih=>grind[Sem.run]
 |shape r k ih=>grind[Sem.run]
 |freeze a n k ih=>intro w;simp only[Sem.run];refine bO ?_ (ih _);simp_all[EE]
 |frozen a k ih=>grind[Sem.run]
 |getObj r k ih=>
  intro w;simp only[Sem.run]
  repeat' split
  all_goals first|exact ih _ _|exact af _
 |setObj r o k ih=>
  intro w;simp only[Sem.run]
  repeat' split
  all_goals first|exact ih {w with heap:=w.heap.setIfInBounds r o}|exact af _
 |choose q k ih=>
  intro w;simp only[Sem.run];grind
 |sys c k ih=>grind[Sem.run,QW]
 |program k ih=>grind[Sem.run]
 |mark m k ih=>grind[Sem.run]
 |halt h=>exact fun w=>af _
theorem cG{p:Program}{α:Type}{s:Sem α}{w:World}{r:Result α}(h:s.run p w=r):w.drawn<=(UK r).drawn:=h▸Qd p s w
theorem UX{p:Program}{α:Type}{s:Sem α}{w:World}{es es':Array Event}{r:Result α}(h:s.runT p w es=(r,es')):w.drawn<=(UK r).drawn:=by
 have:=Sem.runT_fst p s w es;rw[h]at this;exact cG this.symm
theorem Kz(w:World)(fd:Nat)(text:ByteArray)(o:Outcome):w.drawn<=(gW (endWith w fd text o)).drawn:=by
 unfold endWith;simp only[];have h:=QW w (.write fd text);split;all_goals (rename_i e;rw[e]at h)
 all_goals repeat' split
 all_goals exact h
theorem xg(fr:Frame)(m:String)(w:World):w.drawn<=(gW (endThrow fr m w)).drawn:=af _
theorem rW(p:Program)(fr:Frame)(v:Value)(w:World):w.drawn<=(gW (endPrinting p fr v w)).drawn:=by
 unfold endPrinting;simp only[]
 repeat' split
 all_goals exact af _
theorem xh(p:Program)(fr:Frame)(cs:List Frame)(d:Option Dying)(m:String)(w:World):w.drawn<=(gW (endFatal p fr cs d m w)).drawn:=by
 unfold endFatal;simp only[];split;all_goals (rename_i e;exact cG e)
theorem I3(p:Program)(fr:Frame)(d:Dying)(f:Fatal)(w:World):w.drawn<=(gW (writeOn p fr d f w)).drawn:=by
 unfold writeOn;split
 ·exact af _
 ·simp only[];split;all_goals (rename_i e;exact UX e)
theorem YD(p:Program)(fr:Frame)(d:Dying)(w:World):w.drawn<=(gW (die p fr d w)).drawn:=by
 unfold die;split
 ·grind[I3]
 ·split
  ·split
   ·exact af _
   grind[Kz]
  ·simp only[];split
   ·exact af _
   ·split;all_goals (rename_i e;exact cG e)
   ·rw[lG];split;all_goals first|(rename_i e;exact cG ((Sem.runT_fst ..).symm.trans e))|skip
    ·rename_i e;exact bO (cG ((Sem.runT_fst ..).symm.trans e)) (rW ..)
    ·exact af _
   ·exact af _
theorem rK(p:Program)(main:Bool)(fr:Frame)(cs:List Frame)(d:Option Dying)(v:Value)(w:World):w.drawn<=(gW (doReturn p main fr cs d v w)).drawn:=by
 unfold doReturn
 repeat' split
 all_goals exact af _
theorem tW{c:Prop}[Decidable c]{a b:GStep}{n:Nat}(h1:n<=(gW a).drawn)(h2:n<=(gW b).drawn):n<=(gW (if c then a else b)).drawn:=by grind
theorem xP(p:Program)(fr:Frame)(cs:List Frame)(dy:Option Dying)(d:Deferred)(w:World):w.drawn<=(gW (callDeferred p fr cs dy d w)).drawn:=by
 unfold callDeferred;refine tW ?_ ?_
 ·exact af _
 ·simp only[];rw[lG];split;all_goals (rename_i e;have h:=cG ((Sem.runT_fst ..).symm.trans e))
  all_goals first|exact h|exact bO h (xh ..)|((repeat' split)<;>exact h)
theorem Np(p:Program)(main:Bool)(fr:Frame)(cs:List Frame)(dy:Option Dying)(w:World):w.drawn<=(gW (unwind p main fr cs dy w)).drawn:=by
 unfold unwind;split
 ·simp only[];rw[lG];split;all_goals (rename_i e;exact cG ((Sem.runT_fst ..).symm.trans e))
 ·grind[xP]
 ·split
  ·exact af _
  ·split
   ·exact af _
   ·split
    ·exact af _
    ·split
     ·split
      ·exact af _
      ·split;all_goals (rename_i e;exact cG e)
     ·split
      ·grind[rW]
      ·exact af _
  ·split
   ·grind[rK]
   ·simp only[];rw[lG];split;all_goals (rename_i e;have h:=cG ((Sem.runT_fst ..).symm.trans e))
    all_goals first|exact h|exact bO h (rK ..)
theorem Sl(p:Program)(fr:Frame)(cs:List Frame)(dy:Option Dying)(g:Nat)(w:World):w.drawn<=(gW (early p fr cs dy g w)).drawn:=by
 unfold early;simp only[]
 repeat' split
 all_goals first|exact af _|(rename_i e;exact cG e)|(rename_i e _;exact cG e)|(rename_i e _ _;exact cG e)|(rename_i e _ _ _ _;exact cG e)
theorem vj(p:Program)(listen:Bool)(fr:Frame)(cs:List Frame)(dy:Option Dying)(s:Sem Next)(w:World):w.drawn<=(gW (stepG.apply p listen fr cs dy s w)).drawn:=by
 unfold stepG.apply;simp only[];rw[lG];have h0:w.drawn<=(UK (if listen=true then Sem.runT p s w #[]else(Sem.run p s w,#[])).fst).drawn:=by
  cases listen
  ·grind[Qd]
  ·exact cG (Sem.runT_fst ..).symm
 generalize (if listen=true then Sem.runT p s w #[]else(Sem.run p s w,#[])).fst=r at h0 ⊢;split;all_goals first|exact h0|exact bO h0 (xh ..)|exact bO h0 (Sl ..)|exact bO h0 (xg ..)|skip
 all_goals repeat' split
 all_goals first|exact h0|exact bO h0 (xg ..)|skip
theorem Uh(p:Program)(listen:Bool)(fr:Frame)(cs:List Frame)(dy:Option Dying)(w:World):w.drawn<=(gW (stepG.oper p listen fr cs dy w)).drawn:=by
 unfold stepG.oper;split
 ·exact af _
 ·split;all_goals exact vj ..
theorem VD(p:Program)(main listen:Bool)(fr:Frame)(cs:List Frame)(dy:Option Dying)(w:World):w.drawn<=(gW (stepG.exec p main listen fr cs dy w)).drawn:=by
 have lv:∀(l:Nat)(jump:Option Code),w.drawn<=(gW (GStep.after (seen p fr.fn ((Instr.endRound l jump).runT p w #[]).snd) (match((Instr.endRound l jump).runT p w #[]).fst with| .ok v w=>doReturn p main fr cs dy v w| .halt _ w=>.ended (.stuck "range over a function: no such loop" (fr.pos p)) w))).drawn :=by
  intro l jump;rw[lG];have h0:=cG (Sem.runT_fst p (Instr.endRound l jump) w #[]).symm;split;all_goals (rename_i e;rw[e]at h0)
  ·exact bO h0 (rK ..)
  ·exact h0
 unfold stepG.exec;simp only[];split;all_goals first|exact af _|exact vj .. |skip
 ·split
  ·exact tW (af _) (af _)
  grind
 ·split
  ·exact tW (af _) (af _)
  grind
 ·split<;>exact af _
 ·rename_i id k _;cases exitTo id k with
  |none=>simp only[Option.elim];split;exact tW (af _) (af _);grind
  |some k'=>exact af _
 ·rename_i id k _;cases gotoIn id k with
  |none=>simp only[Option.elim];split;exact tW (af _) (af _);grind
  |some k'=>exact af _
 ·rw[lG];split
  ·rename_i e;exact bO (cG ((Sem.runT_fst ..).symm.trans e)) (vj ..)
  ·rename_i e;exact cG ((Sem.runT_fst ..).symm.trans e)
 ·rw[lG];split<;>rename_i e<;>exact cG ((Sem.runT_fst ..).symm.trans e)
 ·rename_i row _ _ _;cases Extern.next row with
  |none=>exact af _
  |some e=>grind[vj]
 ·refine tW (af _) ?_;split<;>rename_i e<;>exact cG e
 ·exact tW (Uh ..) (af _)
theorem QV(p:Program)(main listen:Bool)(g:Goroutine)(w:World):w.drawn<=(gW (stepG p main g w listen)).drawn:=by
 unfold stepG;grind[YD,VD,Np]
def sD(n:Nat):Stepped->Prop
 | .next m=>n<=m.world.drawn
 | .ended _ _=>True
theorem sD.trans{n k:Nat}{s:Stepped}(h:n<=k)(g:sD k s):sD n s:=by
 cases s with
 |next m=>exact bO h g
 |ended o w=>trivial
theorem Rh{c:Prop}[Decidable c]{a b:Stepped}{n:Nat}(h1:sD n a)(h2:sD n b):sD n (if c then a else b):=by grind
theorem L6(p:Program)(gs:Array Goroutine)(rest:Rest)(w:World):sD w.drawn (look p gs rest w):=by
 unfold look;simp only[];split
 ·refine Rh trivial ?_;split
  ·trivial
  ·split<;>rename_i e<;>first|exact cG e|trivial
 ·trivial
theorem xE{rest:Rest}{cases:Array CommCase}{w w':World}(h:waitingAt rest cases w=some w'):w'.drawn=w.drawn:=by
 unfold waitingAt at h
 repeat' split at h
 all_goals first|(cases h;done)|(cases h;rfl)
theorem Et{c:Prop}[Decidable c]{a b:Stepped×Array MemOp}{n:Nat}(h1:sD n a.1)(h2:sD n b.1):sD n (if c then a else b).1:=by grind
theorem BV(p:Program)(rest:Rest)(gs:Array Goroutine)(i:Nat)(g:Goroutine)(cs:Array CommCase)(bl:Bool)(sh:CommShape)(w:World):sD w.drawn (communicate p rest gs i g cs bl sh w).1:=by
 unfold communicate;simp only[];refine Et trivial (Et (Et ?_ (af _)) ?_)
 ·split
  ·rename_i e;exact wl (xE e).symm
  ·trivial
 ·split
  ·trivial
  ·rename_i w1 e;have h:w.drawn<=w1.drawn:=cG e;clear e;split
   ·split
    ·rename_i e;exact bO h (cG e)
    ·trivial
   ·exact h
   ·exact h
   ·split
    ·exact h
    ·split
     ·rename_i e;exact bO h (cG e)
     ·trivial
   ·exact h
   ·exact h
   ·trivial
theorem Qy(p:Program)(m:Machine)(k:Nat):sD m.world.drawn (serve p m k):=by
 unfold serve;split
 ·trivial
 ·exact af _
 ·simp only[];split
  ·trivial
  ·exact af _
theorem BA{m m':Machine}{op:TimerOp}{v:Value}(h:timerOp m op=.ok (v,m')):m'.world.drawn=m.world.drawn:=by
 have rt:∀(m:Machine)(k:Nat)(t:Timer)(a b:Nat),(retime m k t a b).2.world.drawn=m.world.drawn:=by
  intro m k t a b;unfold retime drain;grind
 cases op with
 |new t=>
  simp only[timerOp]at h
  repeat' split at h
  all_goals first|(cases h;done)|(cases h;rfl)
 |stop var=>
  simp only[timerOp,timerOp.named]at h;grind
 | reset var a b=>
  simp only[timerOp,timerOp.named,timerOp.opened]at h;split at h
  ·rename_i e;have e2:∀m2:Machine,(if waitedFor m var=true then match Kernel.withPoller m.world.os with| .ok os=>some {m with world:={m.world with os}}| .error _=>none else some m)=some m2->m2.world.drawn=m.world.drawn:=by
    intro m2 e
    repeat' split at e
    all_goals first|(cases e;done)|(cases e;rfl)
   grind
  ·grind
 |deadline a b c d=>simp only[timerOp]at h;cases h;rfl
theorem UZ(p:Program)(m:Machine)(i:Nat)(b:Bool):sD m.world.drawn (runT p m i b).1:=by
 unfold runT;simp only[];have h:=QV p (i==0) b (m.gs.swapAt! i {(default:Goroutine)with status:=.finished}).1 m.world;generalize stepG p (i==0) (m.gs.swapAt! i {(default:Goroutine)with status:=.finished}).1 m.world b=s at h ⊢;cases s
 all_goals simp only[]
 all_goals try exact h
 all_goals try trivial
 ·exact sD.trans h (BV ..)
 ·exact Rh trivial h
 ·split
  ·rename_i e;exact bO h (wl (BA e).symm)
  ·split
   ·rename_i e;cases e;exact h
   ·trivial
  ·trivial
  ·trivial
 ·split
  ·exact h
  ·split
   ·rename_i e;cases e;exact h
   ·trivial
  ·trivial
 ·exact sD.trans h (L6 ..)
def Pe(n:Nat):Move->Prop
 | .goroutine m _=>n<=m.world.drawn
 | .machine s _=>sD n s
theorem Pe.trans{n k:Nat}{s:Move}(h:n<=k)(g:Pe k s):Pe n s:=by
 cases s with
 |goroutine m i=>exact bO h g
 |machine s o=>exact sD.trans h g
theorem Bd(p:Program)(m:Machine):Pe m.world.drawn (askOn p m):=by
 have pick:∀(m:Machine)(rs:List Nat),Pe m.world.drawn (match(choose (.sched rs.length)).run p m.world with
   | .halt _ w=>.machine (.ended (.stuck "sched" "") w)
   | .ok k world=>
    if rs.length<=1 then .goroutine {m with world} (rs.getD k 0)else
    match(choose (.extern "sched.slice" 65536)).run p world with
    | .halt _ w=>.machine (.ended (.stuck "sched.slice" "") w)
    | .ok n world=>.goroutine {m with world,rest:={m.rest with slice:=if n=0 then none else some (rs.getD k 0,n)}} (rs.getD k 0)):=by
  intro m rs;split
  ·trivial
  ·rename_i w1 e;have h:m.world.drawn<=w1.drawn:=cG e;split
   ·exact h
   ·split
    ·trivial
    ·rename_i e;exact bO h (cG e)
 unfold askOn;simp only[];split
 ·trivial
 ·rename_i k w1 e;have h:m.world.drawn<=w1.drawn:=cG e;clear e;split
  ·exact sD.trans h (Qy p {m with world:=w1} _)
  ·split
   ·split
    ·exact h
    ·split
     ·exact h
     ·split<;>trivial
   ·split
    ·exact Pe.trans h (pick {m with world:=w1} _)
    ·split
     ·trivial
     ·rename_i w2 e;exact Pe.trans (bO h (cG e)) (pick {m with world:=w2} _)
     ·rename_i e;exact bO h (cG e)
     ·rename_i k2 w2 e;exact Pe.trans (bO h (cG e)) (pick (Machine.advanceTo {m with world:=w2} _) _)
theorem Nv(p:Program)(m:Machine):Pe m.world.drawn (ask p m):=by
 unfold ask;split
 ·split
  ·trivial
  ·rename_i w1 e;have h:m.world.drawn<=w1.drawn:=cG e;have h2:=L6 p m.gs m.rest w1;split
   ·rename_i e2;rw[e2]at h2;exact Pe.trans (bO h h2) (Bd ..)
   ·exact sD.trans h h2
  ·rename_i w1 _ e;have h:m.world.drawn<=w1.drawn:=cG e;exact Pe.trans h (Bd p {m with world:=w1})
 grind[Bd]
theorem Uu(p:Program)(m:Machine):Pe m.world.drawn (move p m):=by
 unfold move;split
 ·split
  ·exact af _
  ·trivial
 ·split
  ·split
   ·exact af _
   ·exact Nv p {m with rest:={m.rest with slice:=none}}
  grind[Nv]
theorem T1(p:Program)(m:Machine):sD m.world.drawn (step p m):=by
 unfold step stepT;have h:=Uu p m;split
 ·rename_i e;rw[e]at h;exact sD.trans h (UZ ..)
 ·rename_i e;rw[e]at h;exact h
theorem Ln(p:Program):∀(n:Nat)(m m':Machine),runN p n m=.next m'->m.world.drawn<=m'.world.drawn
 |0,m,m',h=>by cases h;omega
 |n+1,m,m',h=>by
  rw[runN]at h;have h1:=T1 p m;split at h
  ·rename_i e;rw[e]at h1;exact bO h1 (Ln p n _ _ h)
  simp_all
theorem QK{p:Program}{m m':Machine}(h:Steps p m m'):m.world.drawn<=m'.world.drawn:=by
 obtain⟨n,h⟩:=h;exact Ln p n m m' h
theorem Ih{p:Program}{f:FuncId}{args:Array Value}{w:World}{R:Ending->World->Prop}(h:Calls p f args w R):Calls p f args w fun e w'=>R e w'/\((∃v,e=.returned v)->w.drawn<=w'.drawn):=by
 intro cs;obtain⟨e,w',fr,h1,h2,h3,h4⟩:=h cs;refine⟨e,w',fr,⟨h1,?_⟩,h2,h3,h4⟩
 rintro⟨v,rfl⟩
 exact QK (m:=lone _ cs w) (m':=lone fr cs w') h2
end Go.Ev
namespace Go.Ev
open Go Go.RowKit
section
variable{P:Program}{G:eB}{pl:Pl}{M:dl}{h:AHeap}{w w':World}{f:FuncId}{args:List AV}{v:AV}
theorem ct.below(hr:ct pl M h w)(hb:Below w.heap.size w w'):ct pl M h w':=
 ⟨hr.dom,fun id p o h1 h2=>by rw[hb.block _ (hr.blk id p h1)];exact hr.obj id p o h1 h2,fun id p h1=>Ft (hr.blk id p h1) hb.size,hr.inj,
  fun b c h1=>by rw[hb.block _ (hr.memLt h1)];exact hr.imm b c h1,hr.sep⟩
theorem cO.below(hb:Below w.heap.size w w')(hd:w.drawn<=w'.drawn):cO h pl M w h pl M w':=⟨nE.refl _,fun _ _ h=>h,fun _ _ h=>h,hb.size,fun b h1 _=>hb.block b h1,fun id p h=>.inl ⟨p,h,rfl⟩,fun _ _ _ h=>h,fun _ _ h _=>h,fun _ _ h=>.inl h,hb.os,hb.tape,hb.output,hd⟩
theorem aL.below(hE:∀vs w,(callFunc f vs).run P w=.ok (.enter f vs) w)
  (hC:∀(pl:Pl)(M:dl)(w:World)(vs:Array Value)(h:AHeap),pE G pl M->ct pl M h w->VRels pl M args vs->∃cv,VRel pl M v cv/\Calls P f vs w fun e w'=>e=.returned cv/\Below w.heap.size w w'):aL P G f args v:=by
 intro h pl M w vs hG hr hv;obtain⟨cv,h1,h2⟩:=hC pl M w vs h hG hr hv;refine .inl ⟨hE _ _,Calls.mono (Ih h2) fun e w' ⟨⟨he,hb⟩,hd⟩=>?_⟩;exact⟨cv,v,h,he,⟨rfl,rfl⟩,pl,M,h1,hr.below hb,cO.below hb (hd ⟨_,he⟩),af _⟩
theorem aL.calls(hGT:iT G)(hE:∀vs w,(callFunc f vs).run P w=.ok (.enter f vs) w)(hp:aL P G f args v)(hG:pE G pl M)(hr:ct pl M h w){vs:Array Value}(hv:VRels (fun _=>none) M args vs):
  Calls P f vs w fun e w'=>(∃cv pl' M',e=.returned cv/\VRel pl' M' v cv)/\Below w.heap.size w w'/\w.drawn<=w'.drawn:=by
 have r0:ct (fun _=>none) M AHeap.none w:=⟨fun _ _ h=>(by grind),fun _ _ _ h _=>(by grind),fun _ _ h=>(by grind),fun _ _ _ _ h _ _=>(by grind),hr.imm,fun _ _ h=>(by grind)⟩
 rcases hp AHeap.none (fun _=>none) M w vs (hG.none hGT) r0 hv with⟨_,h2⟩|⟨cv,w1,v1,h1,e1,_,_⟩
 ·refine Calls.mono h2 fun e w' ⟨cv,v1,h1,he,⟨e1,e2⟩,pl',M',g1,g2,g3,_⟩=>?_
  subst e1;exact⟨⟨cv,pl',M',he,g1⟩,⟨g3.os,g3.tape,g3.out,g3.size,fun b hb=>g3.kept b hb fun id p h=>(by grind)⟩,g3.drawn⟩
 ·grind
end
def Ru(lo hi:Int)(c:UInt8):Bool:=ax (aB (.ofNat c.toNat) lo||aB hi (.ofNat c.toNat))
abbrev kn:UInt8->Bool:=Ru 48 57
abbrev YR:UInt8->Bool:=Ru 65 90
def eh(p:UInt8->Bool)(s:aH):Nat:=(s.takeWhile p).length
section
variable{p:UInt8->Bool}{s:aH}
theorem Lo:eh p s<=s.length:=(List.takeWhile_prefix p).length_le
theorem Lp:∀{s:aH}{i:Nat},i<eh p s->p (gD s i)=true
 |[],i,h=>by simp_all[eh]
 | c::r,i,h=>by
  cases hc:p c with
  |false=>simp_all[eh]
  |true=>
   cases i with
   |zero=>exact hc
   |succ i=>exact Lp (s:=r) (by simp_all[eh])
theorem Ge:∀{s:aH},eh p s<s.length->p (gD s (eh p s))=false
 |[],h=>by simp_all
 | c::r,h=>by
  cases hc:p c with
  |false=>simp[eh,hc,gD]
  |true=>
   have h2:eh p r<r.length:=by simp_all[eh]
   have:=Ge (s:=r) h2;simp_all[eh,gD]
theorem vC:∀{s:aH},eh p s=s.length↔s.all p=true
 |[]=>by simp[eh]
 |c::r=>by
  have ih:eh p r=r.length↔r.all p=true:=vC;cases hc:p c with
  |false=>simp[eh,hc]
  |true=>simp_all[eh]
end
theorem YK{lo hi:Int}{c:UInt8}(h1:aB hi (.ofNat c.toNat)=true):Ru lo hi c=false:=by grind[Ru]
def ka(s:aH):Bool:=ax (aB (.ofNat (s.take (eh kn s)).length) 1)&&(ax (aB 4 (.ofNat (s.take (eh kn s)).length))&&(ax (ay (.ofNat (gD (s.take (eh kn s)) 0).toNat) 48)&&(ax (aB 3 (.ofNat (s.drop (eh kn s)).length))&&(s.drop (eh kn s)).all YR)))
def sY(s:aH):Bool:=ax (aB (.ofNat s.length) 1)&&(ax (aB 24 (.ofNat s.length))&&s.all (Ru 33 126))
def qm(l:List aH):Bool:=ax (aB 256 (.ofNat l.length))&&l.all sY
theorem En:({data:=#[]}:ByteArray).data.toList=([]:List UInt8):=rfl
theorem Sh(s:aH):aB (.ofNat s.length) 1=dM s []:=by cases s<;>rfl
def dX{α:Type}(p:α->Bool):List α->Nat->Int
 |[],_=> -1
 |x::r,i=>bif p x then Int.ofNat i else dX p r (i+1)
theorem jg{α:Type}(p:α->Bool):∀(l:List α)(i:Nat),aB (dX p l i) 0=ax (l.any p)
 |[],_=>rfl
 |x::r,i=>by
  unfold dX;rw[List.any_cons];cases h:p x with
  |true=>rfl
  |false=>simp_all[jg]
section
variable{α:Type}{p:α->Bool}{l x r:List α}{w:α}{j:Nat}
theorem oE(h1:l.drop j=x)(h2:x=w::r):l.length-(w::r).length=j/\l.length-r.length=j+1:=by grind
theorem ke(h1:l.drop j=x)(h2:x=w::r)(h3:dX p l 0=dX p (w::r) (l.length-(w::r).length))(h4:p w=true):dX p l 0=Int.ofNat j:=by rw[h3,(oE h1 h2).1,dX,h4];rfl
theorem iE(h1:l.drop j=x)(h2:x=w::r)(h3:dX p l 0=dX p (w::r) (l.length-(w::r).length))(h4:p w=false):dX p l 0=dX p r (l.length-r.length):=by rw[h3,(oE h1 h2).1,(oE h1 h2).2,dX,h4];rfl
theorem DV:dX p l 0=dX p l (l.length-l.length):=by simp_all
end
def nl(s:PStep):Bool:=ay s.kind 0&&dM s.label []
def tO(s:PStep):Bool:=aB 0 s.kind&&(ax (aB 7 s.kind)&&ka s.label)
def Pz:List PStep->Bool
 |[]=>true
 |s::r=>(nl s||tO s)&&r.all tO
def kO(p:List PStep):Bool:=Pz p&&ax (aB 9 (.ofNat p.length))
def IE(p r:List PStep):Bool:=bif Nat.beq r.length p.length then Pz r else r.all tO
theorem Pq{p:List PStep}:Pz p=IE p p:=by simp_all[IE]
theorem Wy{p:List PStep}:IE p []=true:=by unfold IE;cases Nat.beq ([]:List PStep).length p.length<;>rfl
theorem Fx{p x r:List PStep}{w:PStep}{j:Nat}(h1:p.drop j=x)(h2:x=w::r)(h3:Pz p=IE p (w::r)):Pz p=((bif ay (Int.ofNat j) 0 then(nl w||tO w)else tO w)&&IE p r):=by
 obtain⟨e1,e2⟩:=oE h1 h2;have e3:=congrArg List.length (h1.trans h2);simp only[yD,cM]at e1 e2 e3;have f1:Nat.beq r.length p.length=false:=by cases h:Nat.beq r.length p.length with|false=>rfl|true=>grind[Nat.eq_of_beq_eq_true]
 rw[h3];unfold IE;rw[f1];cases j with
 |zero=>
  have f2:Nat.beq (w::r).length p.length=true:=by simp_all
  rw[f2];rfl
 |succ j=>
  have f2:Nat.beq (w::r).length p.length=false:=by cases h:Nat.beq (w::r).length p.length with|false=>rfl|true=>simp_all
  rw[f2];rfl
def dW:Int->aH
 |0=>[98,111,111,107]
 |1=>[112,97,114,116]
 |2=>[115,101,99,116,105,111,110]
 |3=>[112,97,114,97,103,114,97,112,104]
 |4=>[116,97,98,108,101]
 |5=>[114,111,119]
 |6=>[99,101,108,108]
 |7=>[110,111,116,101]
 |_=>[]
def JW:Int->List Int
 |0=>[1,2]
 |1=>[2]
 |2=>[3,4,7]
 |3=>[3,4,7]
 |4=>[5]
 |5=>[6]
 |_=>[]
def jz(p k:Int):Bool:=(JW p).any (ay k)
theorem JL{k:Int}(h:k<0\/7<k):dW k=[]:=by
 unfold dW;grind
theorem JX{k:Int}(h:k<0\/7<k):JW k=[]:=by
 unfold JW;grind
end Go.Ev
namespace Go.Ev
open Go Go.RowKit Go.Proofs
structure ClassOf(p:UInt8->Bool)(q:Nat->Bool):Prop where
 low:∀c:UInt8,c.toNat<128->q c.toNat=ax (p c)
 high:∀n,128<=n->q n=true
 none:∀c:UInt8,128<=c.toNat->p c=false
theorem Vm{s:aH}{i:Nat}(h:i<s.length)(h2:i<ByteArray.size ⟨⟨s⟩⟩):(ByteArray.mk ⟨s⟩)[i]'h2=gD s i:=by
 simp[gD,List.getD,kE h];rfl
theorem uG{p:UInt8->Bool}{q:Nat->Bool}(hc:ClassOf p q)(s:aH):∀(f pos:Nat),pos<=eh p s->s.length<=pos+f->Lib.idxFuncFrom q true ⟨⟨s⟩⟩ f pos=(bif Nat.beq (eh p s) s.length then -1 else Int.ofNat (eh p s))
 | f,pos,h1,h2=>by
  have hl:=Lo (p:=p) (s:=s);have hsz:ByteArray.size ⟨⟨s⟩⟩=s.length:=rfl;by_cases he:pos<s.length
  ·cases f with
   |zero=>omega
   | succ f=>
    unfold Lib.idxFuncFrom;rw[hsz,if_pos he];have hb:=Vm he (by rw[hsz];exact he);by_cases hr:pos<eh p s
    ·have hp:=Lp hr;have ha:(gD s pos).toNat<128:=by
      rcases fm (gD s pos).toNat 128 with h|h
      ·exact h
      ·rw[hc.none _ h]at hp;cases hp
     rw[decode_ascii _ pos (by rw[hsz];exact he) (by rw[hb];exact ha),hb];rw[if_neg (by rw[hc.low _ ha,hp];decide)];exact uG hc s f (pos+1) hr (by omega)
    ·have e:eh p s=pos:=by omega
     have hp:=Ge (p:=p) (s:=s) (by omega);rw[e]at hp;have hq:q (Utf8.decode ⟨⟨s⟩⟩ pos).1=true:=by
      rcases fm (gD s pos).toNat 128 with h|h
      ·rw[decode_ascii _ pos (by rw[hsz];exact he) (by rw[hb];exact h),hb,hc.low _ h,hp];rfl
      ·exact hc.high _ (decode_high _ pos (by rw[hsz];exact he) (by rw[hb];exact h)).1
     rw[if_pos hq,e];have f1:Nat.beq pos s.length=false:=by cases h:Nat.beq pos s.length with|false=>rfl|true=>have:=pF h;omega
     rw[f1];rfl
  ·have e:eh p s=s.length:=by omega
   rw[Lib.idxFuncFrom_end _ _ _ _ _ (by rw[hsz];exact he),e,qV];rfl
theorem xq{p:UInt8->Bool}{q:Nat->Bool}(hc:ClassOf p q)(s:aH):Lib.idxFunc q true ⟨⟨s⟩⟩=(bif Nat.beq (eh p s) s.length then -1 else Int.ofNat (eh p s)):=uG hc s _ 0 (bA _) (by show s.length<=0+s.length;omega)
section
variable{P:Program}{G:eB}{f g:FuncId}
theorem CF{pl:Pl}{M:dl}{w:World}{h:AHeap}(hGT:iT G)(hg2:∀args w,(callFunc g args).run P w=.ok (.enter g args) w){q:Nat->Bool}{qI:Int->Bool}(hp:∀r:Int,aL P G g [.int .i32 r] (.bool (qI r)))(hq:∀n:Nat,qI (.ofNat n)=q n)
  (hG:pE G pl M)(hr:ct pl M h w):PredGrows P g #[] q w:=by
 intro W x _ hb;refine Calls.mono (aL.calls hGT hg2 (hp (.ofNat x)) hG (hr.below hb) (vs:=#[.int .i32 (.ofNat x)]) ⟨rfl,fun j y hj=>?_⟩) fun e w' ⟨⟨cv,pl',M',he,hv⟩,hb',_⟩=>?_
 ·cases j with
  |zero=>simp at hj;subst hj;exact .int _ _
  |succ j=>simp_all
 grind[cases VRel]
theorem Al(hGT:iT G)(hE:∀vs w,(callFunc f vs).run P w=.ok (.enter f vs) w)(hg2:∀args w,(callFunc g args).run P w=.ok (.enter g args) w){q:Nat->Bool}{qI:Int->Bool}
  (hC:∀(s:ByteArray)(w:World),PredGrows P g #[] q w->Calls P f #[.string s,.func (.func g) #[] #[]] w fun e w'=>e=.returned (.int .i64 (Lib.idxFunc q true s))/\Below w.heap.size w w')
  (hp:∀r:Int,aL P G g [.int .i32 r] (.bool (qI r)))(hq:∀n:Nat,qI (.ofNat n)=q n){p:UInt8->Bool}(hc:ClassOf p q)(s:aH):
  aL P G f [.str s,.func (.func g) [] []] (.int .i64 (bif Nat.beq (eh p s) s.length then -1 else Int.ofNat (eh p s))):=by
 refine aL.below hE fun pl M w vs h hG hr hv=>?_
 obtain⟨a,b,rfl,hv1,hv2⟩:=Bg hv;have e2:=zl hv2;subst e2;cases hv1
 rw[<-xq hc s];exact⟨_,.int _ _,hC ⟨⟨s⟩⟩ w (CF hGT hg2 hp hq hG hr)⟩
theorem vJ(hGT:iT G)(hE:∀vs w,(callFunc f vs).run P w=.ok (.enter f vs) w)(hg2:∀args w,(callFunc g args).run P w=.ok (.enter g args) w){q:Nat->Bool}{qI:Int->Bool}
  (hC:∀(s:ByteArray)(w:World),PredGrows P g #[] q w->Calls P f #[.string s,.func (.func g) #[] #[]] w fun e w'=>e=.returned (.bool (decide (0<=Lib.idxFunc q true s)))/\Below w.heap.size w w')
  (hp:∀r:Int,aL P G g [.int .i32 r] (.bool (qI r)))(hq:∀n:Nat,qI (.ofNat n)=q n){p:UInt8->Bool}(hc:ClassOf p q)(s:aH):
  aL P G f [.str s,.func (.func g) [] []] (.bool (ax (s.all p))):=by
 refine aL.below hE fun pl M w vs h hG hr hv=>?_
 obtain⟨a,b,rfl,hv1,hv2⟩:=Bg hv;have e2:=zl hv2;subst e2;cases hv1
 have e:ax (s.all p)=decide (0<=Lib.idxFunc q true ⟨⟨s⟩⟩):=by
  rw[xq hc s];cases ha:s.all p with
  |true=>rw[(vC (p:=p)).2 ha,qV];rfl
  | false=>
   have:Nat.beq (eh p s) s.length=false:=by
    cases hb:Nat.beq (eh p s) s.length with
    |false=>rfl
    |true=>grind[vC,Nat.eq_of_beq_eq_true]
   simp_all
 rw[e];exact⟨_,.bool _,hC ⟨⟨s⟩⟩ w (CF hGT hg2 hp hq hG hr)⟩
end
theorem Iy{lo hi:Nat}(h:hi<128):ClassOf (Ru (Int.ofNat lo) (Int.ofNat hi)) fun n=>aB (Int.ofNat n) (Int.ofNat lo)||aB (Int.ofNat hi) (Int.ofNat n) where
 low c _:=by unfold Ru;simp_all
 high n hn:=by rw[show aB (Int.ofNat hi) (Int.ofNat n)=true from nQ (by grind)];simp_all
 none c hn:=YK (nQ (by grind))
end Go.Ev
namespace Go.Ev
open Go Go.RowKit
section
variable{P:Program}{G:eB}{f:FuncId}
theorem JK{pl:Pl}{M:dl}{w:World}{h:AHeap}(hr:ct pl M h w){l:List aH}{a:Addr}{n cap:Nat}(hv:VRel pl M (.ps (l.map nw) false) (.slice (some a) n cap))(hne:l≠[]):
  n=l.length/\n<=cap/\a=⟨a.block,a.off,none⟩/\a.block<w.heap.size/\∀(j:Nat)(x:ByteArray),(l.map fun s=>(⟨⟨s⟩⟩:ByteArray))[j]?=some x->w.cell? ⟨a.block,a.off+j,none⟩=some (.string x):=by
 cases hv with
 | ps hl ht hm hs hc=>
  rename_i sz c;have hne':l.map nw≠[]:=by simp_all
  obtain⟨m1,m2,m3,m4⟩:=hm hne';obtain⟨t,fr,hb⟩:=hr.imm _ _ m2;have hsz:sz=1:=by
   cases l with
   |nil=>simp_all
   |cons s r=>exact((hs (nw s) (by simp)).1).symm
  subst hsz;refine⟨by simp,hl,by rw[<-m1],hr.memLt m2,fun j x hj=>?_⟩;rw[qq]at hj;obtain⟨s,e1,rfl⟩:=Fp.1 hj;have hlt:j<l.length:=(fp.1 e1).1;have q:=hc j (nw s) 0 (.str s) (by simp_all) rfl;rw[Nat.mul_one,pH]at q;have hin:a.off+j<c.size:=by grind
  have e2:c[a.off+j]?=some (c.getD (a.off+j) undef):=by simp_all
  simp only[World.cell?,hb];simp only[Option.isSome_none,fN,if_false];rw[e2];cases hq:c.getD (a.off+j) undef<;>rw[hq]at q<;>cases q
  rfl
theorem Oa(hE:∀vs w,(callFunc f vs).run P w=.ok (.enter f vs) w)
  (hC:∀(bk o c:Nat)(xs:List ByteArray)(sep:ByteArray)(w:World),(∀(j:Nat) x,xs[j]?=some x->w.cell? ⟨bk,o+j,none⟩=some (.string x))->bk<w.heap.size->xs.length<=140737488355328->xs.length<=c->
   (Lib.join (xs.map (·.data.toList)) sep.data.toList).length<=140737488355328->
   Calls P f #[.slice (some ⟨bk,o,none⟩) xs.length c,.string sep] w fun e w'=>e=.returned (.string ⟨(Lib.join (xs.map (·.data.toList)) sep.data.toList).toArray⟩)/\Below w.heap.size w w')
  (hN:∀(a:Option Addr)(c:Nat)(sep:ByteArray)(w:World),Calls P f #[.slice a 0 c,.string sep] w fun e w'=>e=.returned (.string ⟨#[]⟩)/\w'=w)
  (l:List aH)(sep:aH)(h1:l.length<=140737488355328)(h2:(Lib.join l sep).length<=140737488355328):aL P G f [.ls (l.map nw),.str sep] (.str (Lib.join l sep)):=by
 refine aL.below hE fun pl M w vs h hG hr hv=>?_
 obtain⟨a,b,rfl,hv1,hv2⟩:=Bg hv;cases hv2
 have nil (p:Option Addr) (cap:Nat) (hl:l=[]):∃cv,VRel pl M (.str (Lib.join l sep)) cv/\Calls P f #[.slice p 0 cap,.string ⟨⟨sep⟩⟩] w fun e w'=>e=.returned cv/\Below w.heap.size w w':=by
  subst hl;exact⟨.string ⟨⟨[]⟩⟩,.str _,Calls.mono (hN p cap ⟨⟨sep⟩⟩ w) fun e w' ⟨he,hw⟩=>⟨he,hw▸Below.refl _ _⟩⟩
 generalize hx:l.map nw=xs at hv1;cases hv1 with
 |lsn=>simp_all
 | lsp hp ht=>
  subst hx;by_cases hl:l=[]
  ·subst hl;cases hp with
   |ps=>simp_all
  ·have hp':=hp;cases hp with
   |ps=>
    rename_i a cap sz c _ _ _ _ _;obtain⟨e1,e2,e3,e4,e5⟩:=JK hr hp' hl;have e6:(l.map fun s=>(⟨⟨s⟩⟩:ByteArray)).map (·.data.toList)=l:=by rw[List.map_map];exact List.map_id l
    have:=hC a.block a.off cap (l.map fun s=>⟨⟨s⟩⟩) ⟨⟨sep⟩⟩ w e5 e4 (by grind) (by grind) (by grind);rw[e6,<-e3,b9,<-e1]at this;exact⟨.string ⟨⟨Lib.join l sep⟩⟩,.str _,this⟩
theorem Gf(hE:∀vs w,(callFunc f vs).run P w=.ok (.enter f vs) w)
  (hC:∀(s:ByteArray)(c:Nat)(w:World),c<=9223372036854775807->s.size*c<=140737488355328->Calls P f #[.string s,.int .i64 c] w fun e w'=>e=.returned (.string ⟨(Lib.repeatL s.data.toList c).toArray⟩)/\Below w.heap.size w w')
  (s:aH)(c:Nat)(h1:c<=9223372036854775807)(h2:s.length*c<=140737488355328):aL P G f [.str s,.int .i64 (.ofNat c)] (.str (Lib.repeatL s c)):=by
 refine aL.below hE fun pl M w vs h hG hr hv=>?_
 obtain⟨a,b,rfl,hv1,hv2⟩:=Bg hv;cases hv1;cases hv2
 exact⟨.string ⟨⟨Lib.repeatL s c⟩⟩,.str _,hC ⟨⟨s⟩⟩ c w h1 h2⟩
theorem Nr(hE:∀vs w,(callFunc f vs).run P w=.ok (.enter f vs) w)
  (hC:∀(s cs:ByteArray)(w:World),s.size<=9223372036854775807->cs.size<4294967281->(∀(j:Nat) b,cs.data.toList[j]?=some b->b.toNat<128)->
   Calls P f #[.string s,.string cs] w fun e w'=>e=.returned (.string ⟨(Lib.trimS s.data.toList cs.data.toList).toArray⟩)/\Below w.heap.size w w')
  (s cs:aH)(h1:s.length<=9223372036854775807)(h2:cs.length<4294967281)(h3:∀b,b∈cs->b.toNat<128):aL P G f [.str s,.str cs] (.str (Lib.trimS s cs)):=by
 refine aL.below hE fun pl M w vs h hG hr hv=>?_
 obtain⟨a,b,rfl,hv1,hv2⟩:=Bg hv;cases hv1;cases hv2
 exact⟨.string ⟨⟨Lib.trimS s cs⟩⟩,.str _,hC ⟨⟨s⟩⟩ ⟨⟨cs⟩⟩ w h1 h2 fun j b hj=>h3 b (bh hj)⟩
end
structure PId where
 a:Int
 i:Int
 n:Int
 deriving Inhabited,DecidableEq
noncomputable def aK(p:PId):AV:=.agg [.int .i64 p.a,.int .i64 p.i,.int .i64 p.n]
theorem Kg(p:PId):(aK p).top=0:=rfl
def au(u:TUnit):PId:=⟨u.act,u.item,u.n⟩
def bK(p q:PId):Bool:=ay p.a q.a&&(ay p.i q.i&&ay p.n q.n)
theorem uN{p q:PId}(h:bK p q=true):p=q:=by
 unfold bK at h;rw[bz,bz]at h;obtain⟨a,b,c⟩:=p;obtain⟨d,e,g⟩:=q;grind[iQ]
theorem iG(p:PId):bK p p=true:=by simp[bK,bQ]
abbrev fI(p:PId)(u:TUnit):Bool:=bK (au u) p
theorem JN:KeyOf PId true 3 [(0,1),(1,1),(2,1)] aK bK where
 eq a b:=by
  show xN [.int .i64 a.a,.int .i64 a.i,.int .i64 a.n] [.int .i64 b.a,.int .i64 b.i,.int .i64 b.n] [(0,1),(1,1),(2,1)]=_
  simp only[xN,jo,Tt,KK,kL,bK];cases h1:ay a.a b.a<;>cases h2:ay a.i b.i<;>cases h3:ay a.n b.n<;>rfl
 t a b h:=uN h
 refl a:=iG a
 same a:=by simp[aK,lg,jB,jS,kL,bQ]
 top a:=rfl
mutual
def nU:TUnit->Nat
 |⟨_,_,_,_,_,_,_,ks⟩=>1+eW ks
def eW:List TUnit->Nat
 |[]=>0
 |k::r=>nU k+eW r
end
mutual
def ny:TUnit->Nat
 |⟨_,_,_,_,_,_,_,ks⟩=>kM ks
def kM:List TUnit->Nat
 |[]=>0
 |k::r=>Nat.max (1+ny k) (kM r)
end
mutual
def aT:TUnit->List TUnit
 |⟨x1,x2,x3,x4,x5,x6,x7,ks⟩=>⟨x1,x2,x3,x4,x5,x6,x7,ks⟩::cA ks
def cA:List TUnit->List TUnit
 |[]=>[]
 |k::r=>aT k++cA r
end
mutual
def aC(p:PId):TUnit->List TUnit
 |⟨x1,x2,x3,x4,x5,x6,x7,ks⟩=>bif fI p ⟨x1,x2,x3,x4,x5,x6,x7,ks⟩then[⟨x1,x2,x3,x4,x5,x6,x7,ks⟩]else match cQ p ks with
  |[]=>[]
  |y::t=>⟨x1,x2,x3,x4,x5,x6,x7,ks⟩::y::t
def cQ(p:PId):List TUnit->List TUnit
 |[]=>[]
 |k::r=>match aC p k with
  |[]=>cQ p r
  |y::t=>y::t
end
theorem jV(u:TUnit):nU u=1+eW u.kids:=by cases u;rw[nU];rfl
theorem mc:eW []=0:=by rw[eW]
theorem bi(k:TUnit)(r:List TUnit):eW (k::r)=nU k+eW r:=by rw[eW]
theorem NQ(u:TUnit):ny u=kM u.kids:=by cases u;rw[ny];rfl
theorem Dg:kM []=0:=by rw[kM]
theorem KA(k:TUnit)(r:List TUnit):kM (k::r)=Nat.max (1+ny k) (kM r):=by rw[kM]
theorem cq(u:TUnit):aT u=u::cA u.kids:=by cases u;rw[aT];rfl
theorem eS:cA []=[]:=by rw[cA]
theorem bY(k:TUnit)(r:List TUnit):cA (k::r)=aT k++cA r:=by rw[cA]
def cD(u:TUnit):List PId:=(aT u).map au
def hJ(l:List TUnit):List PId:=(cA l).map au
theorem mf(u:TUnit):cD u=au u::hJ u.kids:=by unfold cD hJ;rw[cq];rfl
theorem ru:hJ []=[]:=by unfold hJ;rw[eS];rfl
theorem fD(k:TUnit)(r:List TUnit):hJ (k::r)=cD k++hJ r:=by grind[cD,hJ,bY]
theorem Eh:∀{l:List TUnit}{k:TUnit},k∈l->nU k<=eW l
 |x::r,k,h=>by
  rw[bi];rcases dO.1 h with rfl|h
  ·omega
  ·have:=Eh h;omega
theorem iC{u k:TUnit}(h:k∈u.kids):nU k<nU u:=by rw[jV u];have:=Eh h;omega
theorem JC(u:TUnit):0<nU u:=by grind[jV]
theorem yw:∀(l:List TUnit),l.length<=eW l
 |[]=>by simp_all
 |k::r=>by
  rw[bi,cM];have:=yw r;grind[JC]
theorem bm(u:TUnit):u.kids.length<nU u:=by grind[jV,yw]
theorem N0{l:List TUnit}(h:∀k,k∈l->(aT k).length=nU k):(cA l).length=eW l:=by
 induction l with
 |nil=>rw[eS,mc];rfl
 |cons k r ih=>grind[bY,bi]
theorem Gp:∀(u:TUnit),(aT u).length=nU u:=TUnit.ind fun u ih=>by grind[cq,jV,N0]
theorem uH(u:TUnit):(cD u).length=nU u:=by grind[cD,Gp]
theorem Sr{l:List TUnit}{n:Nat}(h:∀k,k∈l->1+ny k<=n):kM l<=n:=by
 induction l with
 |nil=>grind[Dg]
 |cons k r ih=>grind[KA]
theorem E3:∀(u:TUnit),ny u<nU u:=TUnit.ind fun u ih=>by
 have:kM u.kids<=eW u.kids:=Sr fun k hk=>by have:=ih k hk;have:=Eh hk;omega
 grind[NQ,jV]
section
variable{p:PId}{u w:TUnit}{r:List TUnit}
theorem fG(u:TUnit):aC p u=bif fI p u then[u]else match cQ p u.kids with|[]=>[]|y::t=>u::y::t:=by cases u;rw[aC];rfl
theorem jL:cQ p []=[]:=by rw[cQ]
theorem o4(k:TUnit)(r:List TUnit):cQ p (k::r)=match aC p k with|[]=>cQ p r|y::t=>y::t:=by rw[cQ]
def be(p:PId)(u:TUnit):Bool:=ax (aC p u).isEmpty
theorem Ao(h:be p u=false):aC p u=[]:=by grind[be]
theorem wJ(h:be p u=true):∃y t,aC p u=y::t:=by
 unfold be at h;cases e:aC p u with
 |nil=>grind
 |cons x r=>simp_all
theorem jr(h:be p u=true):aC p u≠[]:=by grind[wJ]
theorem tF(h:fI p u=true):aC p u=[u]:=by rw[fG,h];rfl
theorem EC(h:fI p u=true):be p u=true:=by unfold be;rw[tF h];rfl
theorem gc(h:be p w=false):cQ p (w::r)=cQ p r:=by rw[o4,Ao h]
theorem mL(h:be p w=true):cQ p (w::r)=aC p w:=by grind[wJ,o4]
theorem PS(h:fI p u=false)(h2:cQ p u.kids=cQ p []):aC p u=[]:=by rw[fG,h,h2,jL];rfl
theorem Hv(h:fI p u=false)(h2:cQ p u.kids=cQ p []):be p u=false:=by unfold be;rw[PS h h2];rfl
theorem LK(h:fI p u=false)(h2:cQ p u.kids=cQ p (w::r))(h3:be p w=true):aC p u=u::aC p w:=by grind[fG,mL,wJ]
theorem Vb(h:fI p u=false)(h2:cQ p u.kids=cQ p (w::r))(h3:be p w=true):be p u=true:=by unfold be;rw[LK h h2 h3];rfl
end
theorem ma{p:PId}:∀(u:TUnit),(aC p u).length<=nU u:=TUnit.ind fun u ih=>by
 rw[fG];cases fI p u with
 |true=>exact JC u
 | false=>
  have key:∀(r:List TUnit),(∀k,k∈r->k∈u.kids)->(cQ p r).length<=eW r:=by
   intro r;induction r with
   |nil=>grind[jL]
   |cons k r ihr=>grind[o4,bi]
  grind[jV]
def bd:TUnit:=⟨0,0,0,0,[],[],[],[]⟩
noncomputable def bG(p:PId)(u:TUnit):TUnit:=bif be p u then gD (aC p u) ((aC p u).length -1)else bd
theorem LY{p:PId}:∀(u:TUnit)(x:TUnit),x∈aC p u->x∈aT u:=TUnit.ind fun u ih=>by
 intro x hx;rw[fG]at hx;rw[cq];cases h:fI p u with
 |true=>simp_all
 | false=>
  rw[h]at hx;simp only[cond_false]at hx;have key:∀(r:List TUnit),(∀k,k∈r->k∈u.kids)->∀x,x∈cQ p r->x∈cA r:=by
   intro r;induction r with
   |nil=>grind[jL]
   |cons k r ihr=>grind[o4,bY]
  grind
noncomputable def pN(p:Int×aH):AV:=.agg [.int .i64 p.1,.str p.2]
def nY(a b:Int×aH):Bool:=ay a.1 b.1&&dM a.2 b.2
theorem AM:∀(s:aH),dM s s=true
 |[]=>rfl
 |c::r=>by simp only[dM,AM r,Bool.and_true];simp_all
theorem M8:∀{a b:aH},dM a b=true->a=b
 |[],[],_=>rfl
 |c::r,d::q,h=>by
  simp only[dM,bz]at h;rw[M8 h.2,UInt8.toNat_inj.1 (pF h.1)]
theorem MY:KeyOf (Int×aH) true 2 [(0,1),(1,2)] pN nY where
 eq a b:=by
  show xN [.int .i64 a.1,.str a.2] [.int .i64 b.1,.str b.2] [(0,1),(1,2)]=_
  simp only[xN,jo,Tt,KK,kL,nY];cases h1:ay a.1 b.1<;>cases h2:dM a.2 b.2<;>rfl
 t a b h:=by
  simp only[nY,bz]at h;grind[iQ,M8]
 refl a:=by simp[nY,bQ,AM]
 same a:=by simp[pN,lg,jB,jS,kL,bQ,AM]
 top a:=rfl
noncomputable def dw(b:Bool):AV:=.bool b
theorem A6(b:Bool):(dw b).top=0:=rfl
def Pg{K:Type}(keq:K->K->Bool)(k:K)(l:List (K×Bool)):Bool:=(oZ keq k l).getD false
section
variable{K:Type}{ag:Bool}{sz:Nat}{lv:List (Nat×Nat)}{kenc:K->AV}{keq:K->K->Bool}
theorem GT(hk:KeyOf K ag sz lv kenc keq)(m:List (K×Bool))(k:K):e9 (some (.bool false)) false (bv ag sz lv (kenc k) (bB kenc dw m 0) 0)=some (.bool (Pg keq k m)):=by
 rw[Av hk];unfold Pg;cases oZ keq k m with
 |none=>rfl
 |some v=>rfl
theorem LU(hk:KeyOf K ag sz lv kenc keq)(m:List (K×Bool))(k:K):rT (bB kenc dw m 0) m.length (kenc k) (.bool true) (bv ag sz lv (kenc k) (bB kenc dw m 0) 0)=some (bB kenc dw (fH keq k true m) 0,(fH keq k true m).length):=Cg (f:=dw) hk k true m
end
def oT(l:List PWord):Bool:=ax (aB 256 (.ofNat l.length))&&qm (l.map fun w=>w.text)
def nZ(pk:Int):List TUnit->List ((Int×aH)×Bool)->Bool
 |[],_=>true
 |k::r,m=>jz pk k.kind&&(ax (Pg nY (k.kind,k.label) m)&&nZ pk r (fH nY (k.kind,k.label) true m))
def mq(u:TUnit):Bool:=(bif ay u.kind 0 then dM u.label []&&ax (aB 0 (.ofNat (u.head.length+u.words.length)))else ax (dM (dW u.kind) [])&&(ka u.label&&(oT u.head&&oT u.words)))&&(nZ u.kind u.kids []&&ax (aB 64 (.ofNat u.kids.length)))
def wb(q:TUnit->Bool)(u:TUnit):Bool:=(aT u).all q
theorem yu(q:TUnit->Bool)(u:TUnit):wb q u=(q u&&(cA u.kids).all q):=by grind[wb,cq]
theorem PU(q:TUnit->Bool):(cA []).all q=true:=by rw[eS];rfl
theorem Bn(q:TUnit->Bool)(k:TUnit)(r:List TUnit):(cA (k::r)).all q=(wb q k&&(cA r).all q):=by rw[bY,List.all_append];rfl
def Cs(l:List PId)(m:List (PId×Bool)):List (PId×Bool):=l.foldl (fun m p=>fH bK p true m) m
def bT:PId:=⟨0,0,0⟩
def RF(u:TUnit):Bool:=(Pg bK bT (Cs (cD u) [])&&ay (.ofNat (Cs (cD u) []).length) 1)||(ay (.ofNat (Cs (cD u) []).length) (.ofNat (cD u).length)&&(ay u.kind 0==fI bT u))
def kT(u:TUnit):Bool:=wb mq u&&(ax (aB 8 (.ofNat (ny u)))&&(ax (aB 1024 (.ofNat (nU u)))&&RF u))
theorem bq{u k:TUnit}(h:k∈u.kids){x:TUnit}(hx:x∈aT k):x∈aT u:=by
 rw[cq];refine eC _ ?_;generalize u.kids=l at h;induction l with
 |nil=>grind
 |cons y r ih=>grind[bY]
theorem ch(u:TUnit):u∈aT u:=by grind[cq]
theorem MK{u k:TUnit}(h:k∈u.kids):k∈aT u:=bq h (ch k)
end Go.Ev
namespace Go.Ev
open Go
def dz{α:Type}(q:α->α->Bool):List α->List α->Bool
 |[],[]=>true
 |x::l,y::m=>q x y&&dz q l m
 |_,_=>false
theorem oC{α:Type}{q:α->α->Bool}:∀{l m:List α},l.length≠m.length->dz q l m=false
 |[],[],h=>absurd rfl h
 |[],y::m,_=>rfl
 |x::l,[],_=>rfl
 |x::l,y::m,h=>by
  unfold dz;rw[oC (l:=l) (m:=m) (fun e=>h (by simp[e]))];exact yI _
section
variable{α:Type}[Inhabited α]{q:α->α->Bool}{l m x r:List α}{w:α}{j:Nat}
theorem yl{m:List α}{j:Nat}(h:j<m.length):m.drop j=gD m j::m.drop (j+1):=by grind[List.drop_eq_getElem_cons,gD]
theorem lh(h1:l.drop j=x)(h2:x=w::r)(hl:l.length=m.length)(h3:dz q l m=dz q (w::r) (m.drop (l.length-(w::r).length))):dz q l m=(q w (gD m j)&&dz q r (m.drop (l.length-r.length))):=by
 have e:=congrArg List.length (h1.trans h2);simp only[yD,cM]at e;rw[h3,(oE h1 h2).1,(oE h1 h2).2,yl (by omega),dz]
omit [Inhabited α]in
theorem rZ(hl:l.length=m.length)(h3:dz q l m=dz q [] (m.drop (l.length-([]:List α).length))):dz q l m=true:=by rw[h3,gp,Nat.sub_zero,hl,List.drop_length];rfl
end
def Pi(a b:PWord):Bool:=dM a.text b.text&&(ay a.act b.act&&(ay a.item b.item&&ay a.at_ b.at_))
mutual
def OM:TUnit->TUnit->Bool
 |⟨a,i,n,k,l,h,w,ks⟩,v=>bK ⟨a,i,n⟩ (au v)&&(ay k v.kind&&(dM l v.label&&(dz Pi h v.head&&(dz Pi w v.words&&OL ks v.kids))))
def OL:List TUnit->List TUnit->Bool
 |[],[]=>true
 |k::r,[]=>false
 |k::r,x::s=>OM k x&&OL r s
 |[],x::s=>false
end
theorem Yo(u v:TUnit):OM u v=(bK (au u) (au v)&&(ay u.kind v.kind&&(dM u.label v.label&&(dz Pi u.head v.head&&(dz Pi u.words v.words&&dz OM u.kids v.kids))))):=by
 have key:∀(l m:List TUnit),OL l m=dz OM l m:=by
  intro l;induction l with
  |nil=>intro m;cases m<;>(rw[OL];rfl)
  |cons x l ih=>intro m;cases m with|nil=>rw[OL];rfl|cons y m=>rw[OL,ih];rfl
 cases u
 rw[OM,key];rfl
def I1(u v:AV):Prop:=(Sc v->Sc u)/\Les u.cells v.cells
theorem I1.refl(v:AV):I1 v v:=⟨id,Les.refl _⟩
theorem I1.one{u v:AV}(hu:u.cells=[u])(hv:v.cells=[v])(hs:cN u=true)(h:Le u v):I1 u v:=⟨fun _ y hy=>by simp_all,by rw[hu,hv];exact .cons h .nil⟩
inductive LesC:List AV->List AV->Prop
 |nil:LesC [] []
 |cons {u v:AV} {us vs:List AV} (h:I1 u v) (k:LesC us vs):LesC (u::us) (v::vs)
theorem LesC.len{us vs:List AV}(h:LesC us vs):us.length=vs.length:=by
 induction h with
 |nil=>rfl
 |cons _ _ ih=>simp_all
theorem LesC.at_{us vs:List AV}(h:LesC us vs):∀(j:Nat)(u:AV),us[j]?=some u->∃v,vs[j]?=some v/\I1 u v:=by
 induction h with
 |nil=>simp_all
 |cons h k ih=>grind
theorem Fc{xs ys:List AV}{t:Bool}(h:LesC xs ys):Le (.ps xs false) (.ps ys t):=fun pl M v hv=>by
 cases hv with
 | @ps _ _ a cap sz c hl ht hm hs hc=>
  rw[<-h.len];refine .ps (sz:=sz) (c:=c) (by rw[h.len];omega) (fun h=>by grind) (fun hx=>?_) (fun x hx=>?_) fun i x j y hx hy=>?_
  ·have:ys≠[]:=fun e=>hx (sJ (by rw[h.len,e];rfl))
   rw[h.len];simp_all
  ·obtain⟨i,hi⟩:=Ck hx;obtain⟨y,h1,h2,h3⟩:=h.at_ i x hi;have:=hs y (bh h1);exact⟨h3.len.trans this.1,h2 this.2⟩
  ·obtain⟨z,h1,_,h3⟩:=h.at_ i x hx;obtain⟨d,h4,h5⟩:=h3.at_ j y hy;exact h5 _ _ _ (hc i z j d h1 h4)
theorem ZX{xs ys:List AV}{t:Bool}(h:LesC xs ys)(h0:aq xs=0):Le (.ls xs) (.ps ys t):=fun pl M v hv=>.lsp (Fc h pl M v hv) h0
theorem ZW{xs ys:List AV}(h:LesC xs ys)(h0:aq xs=0):Le (.ls xs) (.ls ys):=fun pl M v hv=>by
 cases hv with
 |lsn=>cases h;exact .lsn
 |lsp hv _=>exact .lsp (Fc h pl M v hv) h0
theorem Le.pls{x:AV}{xs ys:List AV}(h:LesC (x::xs) ys):Le (.ps (x::xs) false) (.ls ys):=fun pl M v hv=>by
 cases hv with
 |lsn=>cases h
 |lsp hv _=>exact Fc h pl M v hv
mutual
def Bu:AV->AV->Bool
 | .ls xs,.nils=>xs.isEmpty
 | .ls xs,.ps ys _=>kB xs ys&&Nat.beq (aq xs) 0
 | .ls xs,.ls ys=>kB xs ys&&Nat.beq (aq xs) 0
 | .ps (x::xs) false,.ls ys=>kB (x::xs) ys
 | .ps xs false,.ps ys _=>kB xs ys
 | .agg us,.agg vs=>kB us vs&&us.all cN
 |u,v=>AV.same u v
def kB:List AV->List AV->Bool
 |[],[]=>true
 |a::us,b::vs=>Bu a b&&kB us vs
 |_,_=>false
end
theorem I1.same{u v:AV}(h:AV.same u v=true):Le u v/\I1 u v:=by grind[AV.same_eq,Le.refl,I1.refl]
mutual
theorem we:∀(u v:AV),Bu u v=true->Le u v/\I1 u v:=fun u v h=>by
 unfold Bu at h;split at h
 ·rename_i xs;have e:xs=[]:=by simp_all
  subst e;exact⟨Le.nils,I1.one rfl rfl rfl Le.nils⟩
 ·rename_i xs ys t;have h:=oK.1 h;have k:=ZX (t:=t) (jG xs ys h.1).2 (pF h.2);exact⟨k,I1.one rfl rfl rfl k⟩
 ·rename_i xs ys;have h:=oK.1 h;have k:=ZW (jG xs ys h.1).2 (pF h.2);exact⟨k,I1.one rfl rfl rfl k⟩
 ·rename_i x xs ys;have k:=Le.pls (jG (x::xs) ys h).2;exact⟨k,I1.one rfl rfl rfl k⟩
 ·rename_i xs ys t;have k:=Fc (t:=t) (jG xs ys h).2;exact⟨k,I1.one rfl rfl rfl k⟩
 ·rename_i us vs;have h:=oK.1 h;have k:=jG us vs h.1;exact⟨aP k.1 h.2,fun _ y hy=>mw.1 h.2 y hy,k.1⟩
 ·exact I1.same h
theorem jG:∀(us vs:List AV),kB us vs=true->Les us vs/\LesC us vs:=fun us vs h=>by
 unfold kB at h;split at h
 ·exact⟨.nil,.nil⟩
 ·rename_i a us b vs;have h:=oK.1 h;have h1:=we a b h.1;have h2:=jG us vs h.2;exact⟨.cons h1.1 h2.1,.cons h1.2 h2.2⟩
 ·grind
end
section
variable{P:Program}{G:eB}{f:FuncId}{a b:List AV}{u v:AV}
theorem aL.args(h:aL P G f a v)(hl:Les a b):aL P G f b v:=fun hp pl M w vs hg hr hv=>h hp pl M w vs hg hr (hv.le hl)
theorem aL.lessB(h:aL P G f a v)(hl:Bu u v=true):aL P G f a u:=h.less (we _ _ hl).1
theorem XM(a b:Nat):C3 (.ofNat a) (.ofNat b)=.ofNat (Nat.max a b):=by
 unfold C3;cases h:aB (.ofNat a) (.ofNat b)with
 |true=>
  have h:=aA h;grind
 |false=>
  have h:=aF h;simp_all
theorem nP{xs ys:List AV}{i t:Nat}{r:List (Nat×Nat)}{x y:AV}{e c:Bool}(hx:jo xs i=some x)(hy:jo ys i=some y)(h:KK t x y=some e)(k:xN xs ys r=some c):xN xs ys ((i,t)::r)=some (e&&c):=by
 simp only[xN,hx,hy,Tt,h];cases e with
 |true=>exact k
 |false=>rfl
theorem xd{xs ys:List AV}{i t:Nat}{r:List (Nat×Nat)}{x y:AV}{e:Bool}(hx:jo xs i=some x)(hy:jo ys i=some y)(h:KK t x y=some e)(k:xN xs ys r=some true):xN xs ys ((i,t)::r)=some e:=by
 simp only[xN,hx,hy,Tt,h];cases e with
 |true=>exact k
 |false=>rfl
theorem yB{d:Option TypeDesc}{n:Nat}{l:List (Nat×Nat)}{xs ys:List AV}{c:Bool}{H:AHeap}(hn:(Nat.beq xs.length n&&Nat.beq ys.length n)=true)(hl:xN xs ys l=some c):
  bc H (TI (qX .eql d (some true) (some n) (some l)) (some (.agg xs)) (some (.agg ys)))=some (.val (.bool c) H):=by
 grind[TI,qX,Yr,pV,bc]
theorem yA{d:Option TypeDesc}{n:Nat}{l:List (Nat×Nat)}{xs ys:List AV}{c:Bool}{H:AHeap}(hn:(Nat.beq xs.length n&&Nat.beq ys.length n)=true)(hl:xN xs ys l=some c):
  bc H (TI (qX .neq d (some true) (some n) (some l)) (some (.agg xs)) (some (.agg ys)))=some (.val (.bool (!c)) H):=by
 grind[TI,qX,Yr,pV,bc]
def xz:List (FuncId×List AV×AV)->aaL
 |[],_,_,_=>none
 |x::r,g,b,h=>match Nat.beq g x.1 with
  |true=>(match kB x.2.1 b with|true=>some (x.2.2,h)|false=>xz r g b h)
  |false=>xz r g b h
theorem Am:∀{L:List (FuncId×List AV×AV)}{g:FuncId}{h h1:AHeap}{v1:AV},xz L g b h=some (v1,h1)->∃x,x∈L/\g=x.1/\kB x.2.1 b=true/\v1=x.2.2/\h1=h
 |[],_,_,_,_,e=>by grind[xz]
 | x::r,g,h,h1,v1,e=>by
  unfold xz at e;have next:xz r g b h=some (v1,h1)->∃y,y∈x::r/\g=y.1/\kB y.2.1 b=true/\v1=y.2.2/\h1=h:=fun e=>
   let⟨y,k,q⟩:=Am e
   ⟨y,eC _ k,q⟩
  grind[Nat.eq_of_beq_eq_true]
theorem RI{C:Cfg}{L:List (FuncId×List AV×AV)}(hC:C.hook=xz L)(hL:∀x,x∈L->aL C.P C.G x.1 x.2.1 x.2.2):K5 C:=fun g b hp v1 h1 e pl M w vs hg hr hv=>by
 rw[hC]at e;obtain⟨x,hx,rfl,hl,rfl,rfl⟩:=Am e;rcases hL x hx h1 pl M w vs hg hr (hv.le (jG _ _ hl).1)with⟨k1,k2⟩|⟨cv,w',v2,h2,k1,⟨rfl,rfl⟩,k3⟩
 ·refine .inl ⟨k1,fun cs=>?_⟩;obtain⟨en,w',fr,⟨cv,v2,h2,e1,⟨rfl,rfl⟩,k3⟩,r⟩:=k2 cs;grind
 ·exact .inr ⟨cv,w',k1,k3⟩
def Ze(v:AV):Option (AV×AHeap)->Bool
 |some (u,_)=>Bu v u&&Nat.beq u.top 0
 |none=>false
theorem aL.closed{C:Cfg}{k:Nat}(hG:iT C.G)(ev:co C.P C.G (iF C k))(ht:aq a=0)(h:Ze v (iF C k f a AHeap.none)=true):aL C.P C.G f a v:=by
 cases hx:iF C k f a AHeap.none with
 |none=>rw[hx]at h;cases h
 |some r=>
  obtain⟨u,h1⟩:=r;rw[hx]at h;have h:=oK.1 h;exact(oO hG ht (pF h.2) ((aE.of ev hx).mono fun v1 _ e=>e.1)).lessB h.1
end
end Go.Ev
namespace Go.Ev
open Go
theorem aL.ls0{P:Program}{G:eB}{f:FuncId}{r:List AV}{v:AV}(h1:aL P G f (.nils::r) v)(h2:aL P G f (.ps [] false::r) v):aL P G f (.ls []::r) v:=fun h=>vd (fun _ _ _ hv=>VRels.first hv fun _ hv=>hv.ls0) (h1 h) (h2 h)
theorem SU{p:PId}{u:TUnit}(h:be p u=true):bG p u∈aC p u:=by
 unfold bG;rw[h];have:=qU.2 (jr h);grind[dZ]
theorem Ta:∀(u:TUnit),nh u=(aT u).flatMap bJ:=by
 refine TUnit.ind fun u ih=>?_
 rw[Nc,cq,CW];congr 1;have key:∀(l:List TUnit),(∀k,k∈l->k∈u.kids)->kN l=(cA l).flatMap bJ:=by
  intro l;induction l with
  |nil=>intro _;rw[DH,eS];rfl
  |cons k r ihr=>grind[tw,bY]
 simp_all
theorem PT{p:PId}:∀(u:TUnit),be p u=true->au (bG p u)=p:=by
 refine TUnit.ind fun u ih h=>?_
 unfold bG;rw[h];simp only[cond_true];cases hh:fI p u with
 |true=>rw[tF hh];exact uN hh
 | false=>
  have key:∀(r:List TUnit),(∀k,k∈r->k∈u.kids)->cQ p r≠[]->au (gD (cQ p r) ((cQ p r).length -1))=p:=by
   intro r;induction r with
   |nil=>grind[jL]
   |cons k r ihr=>grind[mL,bG,gc]
  have k2:=key u.kids fun _ h=>h
  obtain⟨y,t,e⟩:=wJ h;rw[fG,hh]at e ⊢;grind[gD]
theorem mg{p:PId}:∀(u:TUnit),(∃x,x∈aT u/\au x=p)->be p u=true:=by
 refine TUnit.ind fun u ih ⟨x,hx,hp⟩=>?_
 cases hh:fI p u with
 |true=>grind[EC]
 | false=>
  rw[cq]at hx;rcases dO.1 hx with rfl|hx
  ·simp_all[fI,iG]
  ·have key:∀(l:List TUnit),(∀k,k∈l->k∈u.kids)->x∈cA l->cQ p l≠[]:=by
    intro l;induction l with
    |nil=>grind[eS]
    |cons k r ihr=>grind[bY,be,mL,gc]
   grind[be,fG]
theorem C1{α β:Type}{f:α->β}:∀{l:List α},(l.map f).Nodup->∀{x y:α},x∈l->y∈l->f x=f y->x=y
 | a::l,h,x,y,hx,hy,e=>by
  rw[eg,List.nodup_cons]at h;rcases dO.1 hx with h1|h1
  ·grind
  ·rcases dO.1 hy with h2|h2
   ·simp_all
   ·exact C1 h.2 h1 h2 e
theorem Dd{K V:Type}{kenc:K->AV}{f:V->AV}:∀(l:List (K×V))(i:Nat),(bB kenc f l i).length=l.length
 |[],_=>rfl
 |(k,v)::r,i=>by rw[bB,cM,Dd r,cM]
theorem NF(m:List (PId×Bool)):Cs [] m=m:=rfl
theorem Se{n:Nat}(h:0<n):ay (Int.ofNat n) 0=false:=by grind[pg]
def Dw(p:PId):TUnit->Option TUnit:=fun u=>(aT u).find? (fI p)
theorem TD{p:PId}:∀(u:TUnit),(be p u=true->Dw p u=some (bG p u))/\(be p u=false->Dw p u=none):=by
 refine TUnit.ind fun u ih=>?_
 unfold Dw;rw[cq];cases hh:fI p u with
 |true=>
  rw[List.find?_cons_of_pos (by omega)];refine⟨fun h=>?_,fun h=>by grind[EC]⟩;unfold bG;rw[h,tF hh];rfl
 | false=>
  rw[List.find?_cons_of_neg (by simp_all)];have key:∀(r:List TUnit),(∀k,k∈r->k∈u.kids)->(cQ p r≠[]->(cA r).find? (fI p)=some (gD (cQ p r) ((cQ p r).length -1)))/\(cQ p r=[]->(cA r).find? (fI p)=none):=by
   intro r;induction r with
   |nil=>grind[jL,eS]
   |cons k r ihr=>
    intro hm;have ik:=ih k (hm k (eR ..));have ir:=ihr fun z hz=>hm z (eC _ hz)
    rw[bY,List.find?_append];cases hk:be p k with
    |true=>grind[Dw,mL,jr,bG]
    |false=>grind[Dw,gc]
  have k2:=key u.kids fun _ h=>h
  refine⟨fun h=>?_,fun h=>?_⟩
  ·obtain⟨y,t,e⟩:=wJ h;unfold bG;rw[h,fG,hh];rw[fG,hh]at e;grind[gD]
  ·have e:=Ao h;grind[fG]
theorem fC(p:PId)(u:TUnit):fI p u=true↔au u=p:=⟨uN,fun h=>by simp_all[fI,iG]⟩
theorem Ji{y x:TUnit}:∀(u:TUnit),y∈aT u->x∈aT y->x∈aT u:=by
 refine TUnit.ind fun u ih h hx=>?_
 rw[cq]at h ⊢;rcases dO.1 h with rfl|h
 ·grind[cq]
 ·refine eC _ ?_;have key:∀(l:List TUnit),(∀k,k∈l->k∈u.kids)->y∈cA l->x∈cA l:=by
   intro l;induction l with
   |nil=>grind[eS]
   |cons k r ihr=>grind[bY]
  simp_all
theorem cn{y x u:TUnit}(h:y∈aT u)(hx:x∈aT y):x∈aT u:=Ji u h hx
theorem Qs{x:TUnit}:∀(u:TUnit),x∈aT u->nU x<=nU u:=by
 refine TUnit.ind fun u ih h=>?_
 rw[cq]at h;rcases dO.1 h with rfl|h
 ·omega
 ·have key:∀(l:List TUnit),(∀k,k∈l->k∈u.kids)->x∈cA l->nU x<nU u:=by
   intro l;induction l with
   |nil=>grind[eS]
   |cons k r ihr=>grind[bY,Nat.lt_of_le_of_lt,iC]
  grind
theorem dD{x u:TUnit}(h:x∈aT u):nU x<=nU u:=Qs u h
section
variable{p:PId}{u w:TUnit}{r:List TUnit}
end
def kh(a b:PStep):Bool:=ay a.kind b.kind&&dM a.label b.label
mutual
def EO:PItem->PItem->Bool
 |⟨k,a,t,w,n,u,o,ne,l,f,s,ac,im,d,e,bs⟩,v=>
  (ay k v.kind&&(ay w v.where_&&(ay n v.nth_&&(ay ac v.act&&(ay im v.item&&ay d v.day)))))
  &&((dM l v.label&&(dM f v.for_&&(dM e v.event&&(ay s.kind v.start.kind&&(ay s.day v.start.day&&dM s.event v.start.event)))))
  &&((dz kh a v.at_&&(dz kh t v.to&&(dz dM o v.old&&dz dM ne v.new)))
  &&(OM u v.unit&&Dy bs v.by_)))
def Dy:List PItem->List PItem->Bool
 |[],[]=>true
 |k::r,[]=>false
 |k::r,x::s=>EO k x&&Dy r s
 |[],x::s=>false
end
theorem Sd:∀(l m:List PItem),Dy l m=dz EO l m:=by
 intro l;induction l with
 |nil=>intro m;cases m<;>(rw[Dy];rfl)
 |cons x l ih=>intro m;cases m with|nil=>rw[Dy];rfl|cons y m=>rw[Dy,ih];rfl
theorem VE(u v:PItem):EO u v=((ay u.kind v.kind&&(ay u.where_ v.where_&&(ay u.nth_ v.nth_&&(ay u.act v.act&&(ay u.item v.item&&ay u.day v.day)))))
  &&((dM u.label v.label&&(dM u.for_ v.for_&&(dM u.event v.event&&(ay u.start.kind v.start.kind&&(ay u.start.day v.start.day&&dM u.start.event v.start.event)))))
  &&((dz kh u.at_ v.at_&&(dz kh u.to v.to&&(dz dM u.old v.old&&dz dM u.new v.new)))
  &&(OM u.unit v.unit&&dz EO u.by_ v.by_)))):=by
 cases u
 rw[EO,Sd];rfl
noncomputable def Eg(s:aH):Bool:=ax (aB (.ofNat s.length) 1)&&(ax (aB 16 (.ofNat s.length))&&(ax (aB (.ofNat (gD s 0).toNat) 97)&&(ax (aB 122 (.ofNat (gD s 0).toNat))&&dM (Lib.trimS s [97,98,99,100,101,102,103,104,105,106,107,108,109,110,111,112,113,114,115,116,117,118,119,120,121,122,48,49,50,51,52,53,54,55,56,57,45]) [])))
def rN(n:Bool)(s:PStart):Bool:=bif ay s.kind 0||ay s.kind 2 then ay s.day 0&&dM s.event []else bif ay s.kind 1 then(ax (aB s.day 0)&&ax (aB 1048576 s.day))&&dM s.event []else bif ay s.kind 3 then ay s.day 0&&n else false
def bE(s:PStep)(u:TUnit):Bool:=ay u.kind s.kind&&dM u.label s.label
def gd:List PStep->List TUnit->List TUnit
 |[],l=>l
 |s::r,l=>gd r (l.flatMap fun x=>x.kids.filter (bE s))
def eQ(u:TUnit)(p:List PStep):List TUnit:=bif kO p then(match p with
 |[]=>[u]
 |s::r=>gd r (bif nl s then[u]else(aT u).filter (bE s)))else[]
noncomputable def an(u:TUnit)(p:List PStep):PId×Int:=match eQ u p with
 |[]=>(bT,7)
 |[x]=>(au x,0)
 |_=>(bT,8)
def jj(p:PId)(u:TUnit):Bool:=ax (aB (.ofNat (aC p u).length) 2)
noncomputable def JZ(p:PId)(u:TUnit):TUnit:=gD (aC p u) ((aC p u).length -2)
noncomputable def r9(p:PId)(u:TUnit):PId:=bif jj p u then au (JZ p u)else bT
noncomputable def qr(p:PId)(u:TUnit):Int:=bif jj p u then dX (be p) (JZ p u).kids 0 else -1
def mn(p:PId)(u:TUnit):List PId:=(((aC p u).take ((aC p u).length -1)).map au).reverse
structure PSpot where
 id:PId
 at_:Int
 deriving Inhabited
noncomputable def fj(s:PSpot):AV:=.agg [.int .i64 s.id.a,.int .i64 s.id.i,.int .i64 s.id.n,.int .i64 s.at_]
def dI:PSpot:=⟨bT,0⟩
noncomputable def kr(u:TUnit)(p:PId)(n:Int):PSpot×Int:=bif jj p u then(⟨r9 p u,qr p u+n⟩,0)else(dI,9)
noncomputable def ce(w:Int)(u:TUnit)(p:PId):PSpot×Int:=bif ay w 0 then(⟨p,0⟩,0)else bif ay w 1 then(⟨p,.ofNat (bG p u).kids.length⟩,0)else bif ay w 2 then kr u p 1 else kr u p 0
def io(n:Int):Bool:=ax (aB n 0)&&ax (aB 3 n)
def ca(act item:Int):List aH->Nat->List PWord
 |[],_=>[]
 |s::r,n=>⟨s,act,item,.ofNat n⟩::ca act item r (n+1)
def bC(l:List PWord):List aH:=l.map fun w=>w.text
theorem gJ(a i:Int):∀(l:List aH)(n:Nat),(ca a i l n).length=l.length
 |[],_=>rfl
 |s::r,n=>by rw[ca,cM,gJ a i r,cM]
mutual
def cV(a i:Int):TUnit->Nat->Nat->TUnit
 |⟨_,_,_,k,l,h,ws,ks⟩,n,w=>⟨a,i,.ofNat (n+1),k,l,ca a i (bC h) w,ca a i (bC ws) (w+h.length),eb a i ks (n+1) (w+h.length+ws.length)⟩
def eb(a i:Int):List TUnit->Nat->Nat->List TUnit
 |[],_,_=>[]
 |k::r,n,w=>cV a i k n w::eb a i r (n+nU k) (w+(nh k).length)
end
theorem Cp(a i:Int)(u:TUnit)(n w:Nat):cV a i u n w=⟨a,i,.ofNat (n+1),u.kind,u.label,ca a i (bC u.head) w,ca a i (bC u.words) (w+u.head.length),eb a i u.kids (n+1) (w+u.head.length+u.words.length)⟩:=by cases u;rw[cV];rfl
theorem F9(a i:Int)(n w:Nat):eb a i [] n w=[]:=by rw[eb]
theorem D8(a i:Int)(k:TUnit)(r:List TUnit)(n w:Nat):eb a i (k::r) n w=cV a i k n w::eb a i r (n+nU k) (w+(nh k).length):=by rw[eb]
def vM(part:List aH):Nat->List aH->Nat->List Nat
 |0,_,_=>[]
 |f+1,l,i=>bif Nat.ble (i+part.length) l.length then(bif dz dM ((l.drop i).take part.length) part then i::vM part f l (i+part.length)else vM part f l (i+1))else[]
def sT(l part:List aH):List Nat:=bif part.isEmpty then[]else vM part (l.length+1) l 0
end Go.Ev
namespace Go.Ev
open Go Go.RowKit
section
variable{P:Program}{G:eB}{pl:Pl}{M:dl}{h:AHeap}{w w':World}{f:FuncId}
theorem Xd{name:String}{g:Nat}{k:IntKind}{zs:List Int}(hG:pE G pl M)(hr:ct pl M h w)(hx:G g=some (.agg (zs.map fun z=>.int k z)))(hn:P.globalNamed name=some g):Lib.TabIs P w name k zs:=by
 obtain⟨h1,c,h2,h3⟩:=hG g _ hx;obtain⟨t,fr,hb⟩:=hr.imm g c h2;have hlen:c.size=zs.length:=by grind[AV.cells]
 have hel:∀j,j<zs.length->c.getD j undef=.int k (zs.getD j 0):=fun j hj=>by
  generalize hp:(Value.pointer (some (⟨g,0,none⟩:Addr)))=pv at h1;cases h1 with
  |pptr hm hs hi hc=>
   rename_i a sz c';simp only[Value.pointer.injEq,ve,Addr.mk.injEq]at hp;obtain⟨e1,e2,_⟩:=hp;rw[<-e1,h2]at hm;have ec:c'=c:=(Fu hm.2.1).symm;subst ec;have e3:a.off=0:=by omega
   have:=hc 0 (.agg (zs.map fun z=>.int k z)) j (.int k (zs.getD j 0)) rfl (by grind[AV.cells]);rw[e3]at this;simp only[Nat.zero_mul,fL]at this;generalize c'.getD j undef=y at this ⊢;cases this;rfl
 unfold Lib.TabIs;simp only[World.var?,hn,Option.bind_some,hb];refine congrArg some (Array.ext (by simp_all) fun j h4 h5=>?_);have:=hel j (by omega);rw[gv,CJ h4]at this;grind
theorem Ob{tab:String}{g:Nat}{zs:List Int}(hE:∀vs w,(callFunc f vs).run P w=.ok (.enter f vs) w)
  (hC:∀(n:Int)(w:World),-9223372036854775808<=n->n<=9223372036854775807->Lib.TabIs P w tab .u64 zs->Calls P f #[.int .i64 n] w fun e w'=>e=.returned (.string ⟨(Lib.itoa n).toArray⟩)/\∃k os,w'=Go.Sort.grow (w.drewN k) os)
  (hx:G g=some (.agg (zs.map fun z=>.int .u64 z)))(hn:P.globalNamed tab=some g)(n:Int)(h0: -9223372036854775808<=n)(h1:n<=9223372036854775807):aL P G f [.int .i64 n] (.str (Lib.itoa n)):=
 aL.below hE fun pl M w vs h hG hr hv=>by
  obtain⟨a,rfl,hv1⟩:=Ny hv;cases hv1
  refine⟨.string ⟨⟨Lib.itoa n⟩⟩,.str _,Calls.mono (hC n w h0 h1 (Xd hG hr hx hn)) fun e w' ⟨he,k,os,hw⟩=>⟨he,?_⟩⟩;rw[hw];exact⟨rfl,rfl,rfl,by simp_all,fun j hj=>by grind[Go.Sort.grow,World.drewN]⟩
end
theorem VO{m:Nat}(h:m<2^63):(Lib.decDigits m).length<=21:=by
 rw[Lib.decDigits_length];by_cases h0:m=0
 ·grind[Lib.nDigits_small]
 ·obtain⟨h1,h2⟩:=Lib.numDigits_eq m (by omega) (by omega);grind
theorem Rd{k:Nat}(h:0<k):Lib.itoa (-(k:Int))=45::Lib.decDigits k:=by simp_all[Lib.itoa]
theorem Re{n:Int}(h: -9223372036854775808<=n)(h2:n<0):(Lib.itoa n).length<=30:=by
 obtain⟨k,rfl⟩:∃k:Nat,n= -(k:Int):=⟨n.natAbs,by omega⟩
 rw[Rd (by omega),cM,Lib.decDigits_length];obtain⟨h1,h3⟩:=Lib.numDigits_eq k (by omega) (by omega);grind
end Go.Ev
