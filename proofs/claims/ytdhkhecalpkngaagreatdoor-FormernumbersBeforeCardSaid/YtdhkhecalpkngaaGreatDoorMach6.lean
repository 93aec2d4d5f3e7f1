/- An abstract machine for runs of the program, proved sound against the model: part 6. No conditions. -/
import Derived.Test.YtdhkhecalpkngaaGreatDoorMach5
import Derived.Shelf.SortM.Plain
import Derived.Shelf.SortM.SortNone
import Derived.Shelf.SlSortCmp.NoneTotal
import Derived.Shelf.SlicesG.CompactI
import Derived.Lib.QuietBelow
import GoSem.ClaimJoined
import Derived.Calls
import Derived.RunT
import Derived.Below
import Derived.Shelf.Strings.FuncGrows
import Derived.Laws.RangeAny
import Derived.Lib.Join
import Derived.Lib.Repeat
import Derived.Lib.SlTrimSet
namespace Go.Ev
open Go Go.Sort Go.Proofs
section
variable{P:Program}{G:eE}{pl:Pl}{M:dA}{h:AHeap}{w w':World}
theorem tk(hr:ca pl M h w){id:Nat}{p:Place}{sz:Nat}{op:Bool}{ep:Nat}{xs xs':List AV}{c c':Array Value}{t:TypeId}(hp:pl id=some p)(hg:h.get id=some (.row sz op ep xs))
  (hb:w.heap[p.blk]?=some (.cells c t (0,0)))(hw:w'.heap[p.blk]?=some (.cells c' t (0,0)))(hcs:c'.size=c.size)(hlen:xs'.length=xs.length)(hel:∀x,x∈xs'->x.cells.length=sz/\Sc x)
  (hcell:∀i x j y,xs'[i]?=some x->x.cells[j]?=some y->VRel pl M y (c'.getD (i*sz+j) undef))(hs:WSame w w')(hsz:w.heap.size<=w'.heap.size)(hk:∀b,b<w.heap.size->b≠p.blk->w'.heap[b]?=w.heap[b]?):
  ca pl M (h.put id (.row sz op ep xs')) w'/\cG h pl M w (h.put id (.row sz op ep xs')) pl M w':=by
 have ho:=hr.obj id p _ hp hg;rw[hb]at ho;simp only[bb]at ho;obtain⟨h1,h2,h3,h4,h5,h6,h7,h8⟩:=ho;have e:=sm (pl:=pl) hp;have:=ca.change (p':=p) (o':=.row sz op ep xs') hr hp hg (.inl rfl) hs hsz hk (.inl rfl) (sZ.1 hw).1 (by
  rw[e,hw];simp only[bb];refine⟨h1,h2,by omega,by omega,trivial,h6,fun e=>by simp_all,⟨?_,hel,fun i x j y q1 q2=>?_⟩⟩
  ·grind[cases InMem]
  simp_all)
 simp_all
variable{β:Type}[Inhabited β]
theorem qN{enc:β->Value}{blk off n:Nat}{d:Array β}{os:Array Obj}{c:Array Value}{t:TypeId}{fr:Nat×Nat}(hb:w.heap[blk]?=some (.cells c t fr)):
  (grow (putRow enc (Sort.ahead w n) blk off d) os).heap[blk]?=some (.cells (putCells enc off d c) t fr):=by
 grind[grow,putRow,mapBlock,Sort.ahead,onCells]
theorem ke{enc:β->Value}{blk off n:Nat}{d:Array β}{os:Array Obj}{b:Nat}(hb:b<w.heap.size)(hne:b≠blk):
  (grow (putRow enc (Sort.ahead w n) blk off d) os).heap[b]?=w.heap[b]?:=by
 simp only[grow,putRow,mapBlock,Sort.ahead];grind
theorem n8{enc:β->Value}{blk off n:Nat}{d:Array β}{os:Array Obj}:WSame w (grow (putRow enc (Sort.ahead w n) blk off d) os):=⟨rfl,rfl,rfl,Nat.le_add_right _ _⟩
theorem Bt{enc:β->Value}{blk off n:Nat}{d:Array β}{os:Array Obj}:w.heap.size<=(grow (putRow enc (Sort.ahead w n) blk off d) os).heap.size:=by simp_all
theorem n5{enc:β->Value}{d:Array β}{c:Array Value}{k:Nat}(hk:k<d.size)(hc:k<c.size):(putCells enc 0 d c).getD k undef=enc d[k]!:=by simp_all[putCells]
theorem qa(hr:ca pl M h w){id ep len sz:Nat}{op:Bool}{cap:Option Nat}{xs:List AV}{x:Value}(hv:VRel pl M (.slice id ep 0 len cap) x)(hg:h.get id=some (.row sz op ep xs))(hl:0<len):
  ∃p c t cap',pl id=some p/\w.heap[p.blk]?=some (.cells c t (0,0))/\x=.slice (some ⟨p.blk,0,none⟩) len cap'/\InMem pl M c 0 sz xs/\0<sz/\p.blk<w.heap.size:=by
 cases hv with
 | slice hp he hle hk ha=>
  rename_i cap' a p;have ho:=hr.obj id p _ hp hg;cases hb:w.heap[p.blk]? with
  |none=>grind[bb]
  |some ob=>
   rw[hb]at ho;cases ob<;>simp only[bb]at ho
   rename_i c t fr;obtain⟨h1,h2,h3,h4,h5,h6,h7,h8⟩:=ho;subst h5;obtain⟨k1,_⟩:=ha (by omega);have k2:a=⟨p.blk,0,none⟩:=by grind
   exact⟨p,c,t,_,hp,hb,by rw[k2],h8,h6,(sZ.1 hb).1⟩
def dP(zs:List Int):List Int:=zs.mergeSort fun x y=>decide (x<=y)
theorem lX(zs:List Int):(dP zs).Perm zs:=List.mergeSort_perm ..
theorem DA(zs:List Int):(dP zs).Pairwise (fun a b=>a<=b):=by
 have:=List.pairwise_mergeSort (le:=fun x y:Int=>decide (x<=y)) (by grind) (by grind) zs;exact this.imp (by simp)
theorem CN{c:Array Value}{sz:Nat}{xs:List AV}(hm:InMem pl M c 0 sz xs){i:Nat}{x:AV}(hx:xs[i]?=some x){j:Nat}(hj:j<sz):i*sz+j<c.size/\∃y,x.cells[j]?=some y/\VRel pl M y (c.getD (i*sz+j) undef):=by
 have h1:=hm.fit;have hi:=(fE.1 hx).1;have h2:=(hm.elem x (bm hx)).1;have h3:(i+1)*sz<=xs.length*sz:=eB _ hi;rw[jL]at h3;refine⟨by omega,x.cells[j],by simp_all,?_⟩;have:=hm.cell i x j _ hx (mU (by omega:j<x.cells.length));simp_all
theorem Bg{f:FuncId}(hE:∀vs w,(callFunc f vs).run P w=.ok (.enter f vs) w)
  (hC:∀(blk off cap:Nat)(zs:List Int)(w:World),Holds (Value.int .i64) w blk off zs.toArray->blk<w.heap.size->zs.length<4611686018427387904->
   Calls P f #[.slice (some ⟨blk,off,none⟩) zs.length cap] w fun e w'=>e=.returned (.tuple #[])/\∃n os,w'=grow (putRow (Value.int .i64) (Sort.ahead w n) blk off (zs.mergeSort fun x y=>decide (x<=y)).toArray) os)
  {id ep:Nat}{op:Bool}{cap:Option Nat}(zs:List Int)(hg:h.get id=some (.row 1 op ep (zs.map bu)))(hz:0<zs.length)(hb:zs.length<4611686018427387904):
  aH P G f [.slice id ep 0 zs.length cap] h (fun v h'=>v=.tuple []/\h'=h.put id (.row 1 op ep ((dP zs).map bu))):=by
 intro pl M w vs hG hr hv;obtain⟨a,rfl,hv1⟩:=Sz hv;obtain⟨p,c,t,cap',hp,hbl,rfl,hm,_,hlt⟩:=qa hr hv1 hg hz;have hcell:∀j z,zs[j]?=some z->j<c.size/\c.getD j undef=.int .i64 z:=by
  intro j z hj;have hx:(zs.map bu)[j]?=some (bu z):=by simp_all
  obtain⟨q1,y,q2,q3⟩:=CN hm hx (j:=0) (by omega);rw[Nat.mul_one,pC]at q1 q3;simp[bu,AV.cells]at q2;subst q2;refine⟨q1,?_⟩;cases hq:c.getD j undef<;>rw[hq]at q3<;>cases q3
  rfl
 refine .inl ⟨hE _ _,Calls.mono (hC p.blk 0 cap' zs w (fun j hj=>?_) hlt hb) fun e w' ⟨he,n,os,hw⟩=>?_⟩
 ·have hj':j<zs.length:=by omega
  obtain⟨q1,q2⟩:=hcell j zs[j] (mU hj');rw[fO];refine⟨?_,?_⟩
  ·simp only[World.cell?,hbl];simp only[Option.isSome_none,gh,if_false];rw[FJ q1];simp_all
  grind[World.frozen?]
 ·refine⟨.tuple #[],.tuple [],_,he,⟨rfl,rfl⟩,pl,M,ra,?_⟩;have hlen:(dP zs).length=zs.length:=(lX zs).length_eq;have hw1:w'.heap[p.blk]?=some (.cells (putCells (Value.int .i64) 0 (dP zs).toArray c) t (0,0)):=by rw[hw];exact qN hbl
  obtain⟨r1,r2⟩:=tk (w':=w') (xs':=(dP zs).map bu) hr hp hg hbl hw1 (by simp[putCells]) (by simp_all) (fun x hx=>by
    obtain⟨z,_,rfl⟩:=jf.1 hx;exact⟨rfl,fun y hy=>by simp[bu,AV.cells]at hy;subst hy;rfl⟩) (fun i x j y q1 q2=>by
    rw[qK]at q1;obtain⟨z,e1,rfl⟩:=FW.1 q1;have hi:=(fE.1 e1).1;cases j with
    |succ j=>grind[bu,AV.cells]
    |zero=>
     simp[bu,AV.cells]at q2;subst q2;rw[Nat.mul_one,pC,n5 (by omega) (hcell i zs[i] (mU (by omega))).1];have:(dP zs).toArray[i]! =z:=by simp_all
     rw[this];exact .int _ _) (by grind[n8]) (by simp_all) (fun b hb hne=>by grind[ke])
  exact⟨r1,r2,ah _⟩
def ba(zs:List Int):List Int:=Lib.compact zs
theorem xl(zs:List Int):(ba zs).length<=zs.length:=by grind[ba,Lib.compact,Lib.compactUpTo]
theorem wz{f:FuncId}(hE:∀vs w,(callFunc f vs).run P w=.ok (.enter f vs) w)
  (hC:∀(blk off cap:Nat)(zs:List Int)(w:World),Holds (Value.int .i64) w blk off zs.toArray->zs.length<=9223372036854775807->zs.length<=cap->
   Calls P f #[.slice (some ⟨blk,off,none⟩) zs.length cap] w fun e w'=>e=.returned (.slice (some ⟨blk,off,none⟩) (Lib.compact zs).length cap)/\∃q,w'=putRow (Value.int .i64) (Sort.ahead w q) blk off (Lib.compact zs++List.replicate (zs.length-(Lib.compact zs).length) 0).toArray)
  {id ep:Nat}{op:Bool}(zs:List Int)(hg:h.get id=some (.row 1 op ep (zs.map bu)))(hz:0<zs.length)(hb:zs.length<4611686018427387904):
  aH P G f [.slice id ep 0 zs.length none] h (fun v h'=>v=.slice id ep 0 (ba zs).length none/\h'=h.put id (.row 1 op ep ((ba zs++List.replicate (zs.length-(ba zs).length) 0).map bu))):=by
 intro pl M w vs hG hr hv;obtain⟨a,rfl,hv1⟩:=Sz hv;obtain⟨p,c,t,cap',hp,hbl,rfl,hm,_,hlt⟩:=qa hr hv1 hg hz;have hcell:∀j z,zs[j]?=some z->j<c.size/\c.getD j undef=.int .i64 z:=by
  intro j z hj;have hx:(zs.map bu)[j]?=some (bu z):=by simp_all
  obtain⟨q1,y,q2,q3⟩:=CN hm hx (j:=0) (by omega);rw[Nat.mul_one,pC]at q1 q3;simp[bu,AV.cells]at q2;subst q2;refine⟨q1,?_⟩;cases hq:c.getD j undef<;>rw[hq]at q3<;>cases q3
  rfl
 have hle:=xl zs;have hcap:zs.length<=cap':=by grind[cases VRel]
 generalize hnew:ba zs++List.replicate (zs.length-(ba zs).length) 0=ns;have hnl:ns.length=zs.length:=by grind
 refine .inl ⟨hE _ _,Calls.mono (hC p.blk 0 cap' zs w (fun j hj=>?_) (by omega) hcap) fun e w' ⟨he,n,hw⟩=>?_⟩
 ·have hj':j<zs.length:=by omega
  obtain⟨q1,q2⟩:=hcell j zs[j] (mU hj');rw[fO];refine⟨?_,?_⟩
  ·simp only[World.cell?,hbl];simp only[Option.isSome_none,gh,if_false];rw[FJ q1];simp_all
  grind[World.frozen?]
 ·have hw2:w'=grow (putRow (Value.int .i64) (Sort.ahead w n) p.blk 0 ns.toArray) #[]:=by rw[hw,grow_empty];congr 2
  have hrel:VRel pl M (.slice id ep 0 (ba zs).length none) (.slice (some ⟨p.blk,0,none⟩) (ba zs).length cap'):=by
   cases hv1 with
   |slice hp he hl hk ha=>
    refine .slice hp he (by omega) hk fun e=>?_
    grind
  refine⟨_,_,_,he,⟨rfl,rfl⟩,pl,M,hrel,?_⟩;have hw1:w'.heap[p.blk]?=some (.cells (putCells (Value.int .i64) 0 ns.toArray c) t (0,0)):=by grind[qN]
  obtain⟨r1,r2⟩:=tk (w':=w') (xs':=ns.map bu) hr hp hg hbl hw1 (by simp[putCells]) (by simp_all) (fun x hx=>by
    obtain⟨z,_,rfl⟩:=jf.1 hx;exact⟨rfl,fun y hy=>by simp[bu,AV.cells]at hy;subst hy;rfl⟩) (fun i x j y q1 q2=>by
    rw[qK]at q1;obtain⟨z,e1,rfl⟩:=FW.1 q1;have hi:=(fE.1 e1).1;cases j with
    |succ j=>grind[bu,AV.cells]
    |zero=>
     simp[bu,AV.cells]at q2;subst q2;rw[Nat.mul_one,pC,n5 (by omega) (hcell i zs[i] (mU (by omega))).1];have:ns.toArray[i]! =z:=by simp_all
     rw[this];exact .int _ _) (by grind[n8]) (by simp_all) (fun b hb hne=>by grind[ke])
  exact⟨r1,r2,ah _⟩
theorem DB{f:FuncId}(hE:∀vs w,(callFunc f vs).run P w=.ok (.enter f vs) w)
  (hC:∀(p:Option Addr)(cap:Nat)(w:World),Calls P f #[.slice p 0 cap] w fun e w'=>e=.returned (.tuple #[])/\w'=w):bX P G f [.nils] (.tuple []):=by
 intro h pl M w vs hG hr hv;obtain⟨a,rfl,hv1⟩:=Sz hv;cases hv1
 exact .inl ⟨hE _ _,Calls.mono (hC none 0 w) fun e w' ⟨he,hw⟩=>⟨.tuple #[],.tuple [],h,he,⟨rfl,rfl⟩,pl,M,ra,by simp_all[StepF.refl]⟩⟩
theorem vi{f:FuncId}{g:Fn}(hE:∀vs w,(callFunc f vs).run P w=.ok (.enter f vs) w)
  (hC:∀(p:Option Addr)(cap:Nat)(fv:Value)(w:World),Calls P f #[.slice p 0 cap,fv] w fun e w'=>e=.returned (.tuple #[])/\w'=w):bX P G f [.nils,.func g [] []] (.tuple []):=by
 intro h pl M w vs hG hr hv;obtain⟨a,b,rfl,hv1,hv2⟩:=A8 hv;cases hv1
 exact .inl ⟨hE _ _,Calls.mono (hC none 0 b w) fun e w' ⟨he,hw⟩=>⟨.tuple #[],.tuple [],h,he,⟨rfl,rfl⟩,pl,M,ra,by simp_all[StepF.refl]⟩⟩
def EX{α:Type}(cmp:α->α->Int)(a b:α):Bool:=decide (cmp a b<0)
theorem Bh{f g:FuncId}{sz:Nat}(hGT:jW G)(hE:∀vs w,(callFunc f vs).run P w=.ok (.enter f vs) w)(hg2:∀args w,(callFunc g args).run P w=.ok (.enter g args) w)
  (hC:∀(m:Nat)(enc:Fin (m+1)->List Value)(cf:Fin (m+1)->Fin (m+1)->Int)(blk off cap:Nat)(d:Array (Fin (m+1)))(w:World),(∀x,(enc x).length=sz)->(∀x,∀v∈enc x,v.oneCell'=true)->SWO (ltOf cf)->
   CmpLays P g #[] enc sz cf blk off d.size w->HoldsK enc sz w blk off d->blk<w.heap.size->d.size<4611686018427387904->
   Calls P f #[.slice (some ⟨blk,off,none⟩) d.size cap,.func (.func g) #[] #[]] w fun e w'=>e=.returned (.tuple #[])/\∃d' n os,PermIn 0 d.size d d'/\SortedIn (ltOf cf) 0 d.size d'/\w'=sortWorldK enc sz w blk off n d' os)
  {α:Type}[Inhabited α](enc:α->AV)(cmp:α->α->Int)(hO:SWO (EX cmp))(hag:∀a,∃cs,enc a=.agg cs)(htop:∀a,(enc a).top=0)
  (l:List α)(hcmp:∀a,a∈l->∀b,b∈l->bX P G g [enc a,enc b] (.int .i64 (cmp a b)))
  {oid ep:Nat}{op:Bool}{cap:Option Nat}(hg:h.get oid=some (.row sz op ep (l.map enc)))(hz:0<l.length)(hb:l.length<4611686018427387904):
  aH P G f [.slice oid ep 0 l.length cap,.func (.func g) [] []] h (fun v h'=>∃l':List α,(l'.Perm l/\l'.Pairwise fun a b=>EX cmp b a=false)/\v=.tuple []/\h'=h.put oid (.row sz op ep (l'.map enc))):=by
 intro pl M w vs hG hr hv;obtain⟨a,fv,rfl,hv1,hv2⟩:=A8 hv;have e2:=zx hv2;subst e2;obtain⟨p,c,t,cap',hp,hbl,rfl,hm,hsz0,hlt⟩:=qa hr hv1 hg hz;obtain⟨m,hm1⟩:∃m,l.length=m+1:=⟨l.length-1,by omega⟩
 have hfit:=hm.fit;rw[cQ,fO,hm1]at hfit;have helem:∀i:Fin (m+1),(l.map enc)[i.1]?=some (enc l[i.1]!):=fun i=>by
  have:=i.2;rw[qK,mU (by omega),getElem!_pos l i.1 (by omega)];rfl
 have hmul:∀i:Fin (m+1),i.1*sz+sz<=(m+1)*sz:=fun i=>by have:=eB sz (Nat.succ_le_of_lt i.2);rwa[qV]at this
 generalize hcof:(fun i:Fin (m+1)=>(List.range sz).map fun j=>c.getD (i.1*sz+j) undef)=cellsOf;have cl:∀i,(cellsOf i).length=sz:=fun i=>by rw[<-hcof];simp
 have cg:∀i j,j<sz->(cellsOf i)[j]?=some (c.getD (i.1*sz+j) undef):=fun i j hj=>by rw[<-hcof];simp[hj]
 generalize hd:(Array.ofFn (n:=m+1) id)=d;have hds:d.size=m+1:=by rw[<-hd];simp
 have hdg:∀j (hj:j<m+1),d[j]! =⟨j,hj⟩:=fun j hj=>by rw[getElem!_pos d j (by omega)];subst hd;simp
 have hflat:∀(dk:Array (Fin (m+1))),dk.size=m+1->∀i j,i<m+1->j<sz->(flatK cellsOf sz dk)[i*sz+j]! =c.getD ((dk[i]!).1*sz+j) undef:=fun dk hdk i j hi hj=>by
  have h1:i*sz+j<dk.size*sz:=by have:=eB sz (Nat.succ_le_of_lt hi);rw[qV]at this;rw[hdk];omega
  rw[get_flatK cellsOf sz dk _ h1];have h2:(i*sz+j)/sz=i:=by rw[Nat.mul_comm,Nat.mul_add_div hsz0,Nat.div_eq_of_lt hj,pC]
  have h3:(i*sz+j)%sz=j:=by rw[Nat.mul_comm,Nat.mul_add_mod,Nat.mod_eq_of_lt hj]
  rw[h2,h3,getElem!_pos _ j (by rw[cl];exact hj)];have:=cg (dk[i]!) j hj;rw[mU (by rw[cl];exact hj)]at this;simpa using this
 have hH:HoldsK cellsOf sz w p.blk 0 d:=by
  intro k hk;rw[size_flatK,hds]at hk;have hi:k/sz<m+1:=Nat.div_lt_of_lt_mul (by rw[Nat.mul_comm];exact hk);have hj:k%sz<sz:=Nat.mod_lt _ hsz0;have hk2:k/sz*sz+k%sz=k:=by rw[Nat.mul_comm];exact Nat.div_add_mod k sz
  have:=hflat d hds (k/sz) (k%sz) hi hj;rw[hdg _ hi,hk2]at this;rw[this,fO];have hkc:k<c.size:=by omega
  refine⟨?_,by simp[World.frozen?,hbl]⟩;simp only[World.cell?,hbl];simp only[Option.isSome_none,gh,if_false];rw[FJ hkc];simp[Array.getD,hkc]
 have hrelE:∀(i:Fin (m+1)) cs,enc l[i.1]! =.agg cs->cs.length=sz/\(∀y,y∈cs->cE y=true)/\∀(j:Nat)(y:AV),cs[j]?=some y->VRel pl M y (c.getD (i.1*sz+j) undef):=by
  intro i cs hcs;have h1:=hm.elem _ (bm (helem i));rw[hcs]at h1;refine⟨h1.1,h1.2,fun j y hj=>?_⟩;have:=hm.cell i.1 _ j y (helem i) (by rw[hcs];exact hj);rwa[fO]at this
 have hone:∀i,∀v∈cellsOf i,v.oneCell'=true:=by
  intro i v hvm;obtain⟨j,hj,e⟩:=FX hvm;rw[cl]at hj;have h1:=cg i j hj;rw[mU (by rw[cl];exact hj),e]at h1;obtain⟨cs,hcs⟩:=hag l[i.1]!;obtain⟨k1,k2,k3⟩:=hrelE i cs hcs;have:=k3 j cs[j] (mU (by omega));cases h1
  exact this.one (k2 _ (Dl _))
 have hmemL:∀i:Fin (m+1),l[i.1]!∈l:=fun i=>by
  have:=i.2;rw[getElem!_pos l i.1 (by omega)];exact Dl _
 have hlays:CmpLays P g #[] cellsOf sz (fun i j=>cmp l[i.1]! l[j.1]!) p.blk 0 d.size w:=by
  intro n os dk hdk x y;generalize hW:sortWorldK cellsOf sz w p.blk 0 n dk os=W;have hWo:∀b,b<w.heap.size->b≠p.blk->W.heap[b]?=w.heap[b]?:=fun b h1 h2=>by rw[<-hW];exact ke h1 h2
  have hrW:ca (fun _=>none) M AHeap.none W:=qm (pl:=fun _=>none) (n:=0) (g:=AHeap.none.get) ⟨fun _ _ h=>by simp at h,fun _ _ _ h=>by simp at h,fun _ _ h=>by simp at h,fun _ _ _ _ h=>by simp at h,fun b c' hM=>by
   obtain⟨t',fr,q⟩:=hr.imm b c' hM;refine⟨t',fr,?_⟩;rw[hWo b (hr.memLt hM) (fun e=>by have:=hr.sep oid p hp;rw[<-e,hM]at this;cases this)];exact q,fun _ _ h=>by simp at h⟩
  have hrel:∀i:Fin (m+1),VRel (fun _=>none) M (enc l[i.1]!) (.agg (cellsOf i).toArray):=by
   intro i;obtain⟨cs,hcs⟩:=hag l[i.1]!;obtain⟨k1,k2,k3⟩:=hrelE i cs hcs;have ht:=htop l[i.1]!;rw[hcs]at ht ⊢;refine .agg (by simp[cl,k1]) k2 fun j y hj=>?_
   have hj':j<sz:=by rw[<-k1];exact(fE.1 hj).1
   have e:(cellsOf i).toArray.getD j undef=c.getD (i.1*sz+j) undef:=by
    have:=cg i j hj';rw[gr,oV,this];rfl
   rw[e];exact(k3 j y hj).none (kX.1 ht y (bm hj))
  have hc:=hcmp _ (hmemL x) _ (hmemL y) AHeap.none (fun _=>none) M W #[.agg (cellsOf x).toArray,.agg (cellsOf y).toArray] (hG.none hGT) hrW ⟨rfl,fun j z hj=>by
   match j,hj with
   |0,hj=>cases hj;exact hrel x
   |1,hj=>cases hj;exact hrel y⟩
  rcases hc with⟨h1,h2⟩|⟨cv,w',v,h',h1,h2,h3⟩
  ·refine Calls.mono h2 fun e w' ⟨cv,v,h',k1,k2,pl',M',k3,k4,k5,k6⟩=>?_
   obtain⟨k2,_⟩:=k2;subst k2;cases k3
   refine⟨k1,?_⟩;obtain⟨q,hq⟩:=regrown_of_below (w:=W) (w':=w') ⟨k5.os,k5.tape,k5.out,k5.size,fun b hb=>k5.kept b hb fun id p h=>by simp at h⟩;refine⟨w'.drawn-W.drawn,q.os,?_⟩;have hd1:w'.drawn=q.d:=by rw[hq];rfl
   have hd2:=k5.drawn;have:redrawn W q.d=W.drewN (w'.drawn-W.drawn):=by
    show({W with drawn:=q.d}:World)={W with drawn:=W.drawn+(w'.drawn-W.drawn)}
    congr 1;omega
   rw[<-this];exact hq
  ·rw[hg2]at h1;cases h1
 refine .inl ⟨hE _ _,?_⟩;have hcall:=hC m cellsOf (fun i j=>cmp l[i.1]! l[j.1]!) p.blk 0 cap' d w cl hone ⟨fun x=>hO.irrefl _,fun x y z=>hO.trans _ _ _,fun x y z=>hO.ntrans _ _ _⟩ hlays hH hlt (by omega);rw[show d.size=l.length by omega]at hcall;refine Calls.mono hcall fun e w' ⟨he,d',n,os,hP,hS,hw⟩=>?_
 obtain⟨hp1,_,hp3⟩:=hP;have hd's:d'.size=m+1:=by omega
 have hperm:d'.toList.Perm d.toList:=by
  have e1:d'.extract 0 l.length=d':=by rw[show l.length=d'.size by omega];exact Array.extract_size
  have e2:d.extract 0 l.length=d:=by rw[show l.length=d.size by omega];exact Array.extract_size
  rwa[e1,e2]at hp3
 have hdl:d.toList.map (fun i=>l[i.1]!)=l:=by
  apply List.ext_getElem?;intro i;by_cases hi:i<l.length
  ·rw[qK,Array.getElem?_toList,FJ (by omega),mU hi];have:=hdg i (by omega);rw[getElem!_pos d i (by omega)]at this;rw[this];show some (l[i]!)=some l[i]
   rw[getElem!_pos l i hi]
  ·rw[List.getElem?_eq_none (by simp;omega),List.getElem?_eq_none (by omega)]
 have hl':(d'.toList.map (fun i=>l[i.1]!)).length=l.length:=by simp;omega
 refine⟨.tuple #[],.tuple [],_,he,⟨d'.toList.map (fun i=>l[i.1]!),⟨?_,?_⟩,rfl,rfl⟩,pl,M,ra,?_⟩
 ·have:=hperm.map (fun i=>l[i.1]!);rwa[hdl]at this
 ·rw[JP];intro i j hi hj hij;have hi':i<d'.size:=by simpa using hi
  have hj':j<d'.size:=by simpa using hj
  have:=hS i j (bD _) hij (by omega);rw[getElem!_pos d' i hi',getElem!_pos d' j hj']at this;simpa[EX,ltOf]using this
 ·have hw1:w'.heap[p.blk]?=some (.cells (putCells id 0 (flatK cellsOf sz d') c) t (0,0)):=by rw[hw];exact qN hbl
  obtain⟨r1,r2⟩:=tk (w':=w') (xs':=(d'.toList.map (fun i=>l[i.1]!)).map enc) hr hp hg hbl hw1 (by simp[putCells]) (by simp;omega) (fun x hx=>by
    obtain⟨z,h1,rfl⟩:=jf.1 hx;obtain⟨i,_,rfl⟩:=jf.1 h1;exact hm.elem _ (bm (helem i))) (fun i x j y q1 q2=>by
    rw[qK,qK,Array.getElem?_toList]at q1;obtain⟨z,e1,rfl⟩:=FW.1 q1;obtain⟨k,e2,rfl⟩:=FW.1 e1;have hi:i<d'.size:=(sZ.1 e2).1;obtain⟨cs,hcs⟩:=hag l[k.1]!;obtain⟨k1,k2,k3⟩:=hrelE k cs hcs;rw[hcs]at q2;have hj:j<sz:=by rw[<-k1];exact(fE.1 q2).1
    have hb1:i*sz+j<(m+1)*sz:=by have:=eB sz (Nat.succ_le_of_lt (show i<m+1 by omega));rw[qV]at this;omega
    rw[n5 (by rw[size_flatK,hd's];exact hb1) (by omega)];have:=hflat d' hd's i j (by omega) hj;have e3:d'[i]! =k:=by rw[getElem!_pos d' i hi];rw[FJ hi]at e2;simpa using e2
    rw[e3]at this;show VRel pl M y (flatK cellsOf sz d')[i*sz+j]!
    rw[this];exact k3 j y q2) (by rw[hw];exact n8) (by rw[hw];exact Bt) (fun b hb hne=>by rw[hw];exact ke hb hne)
  exact⟨r1,r2,ah _⟩
end
theorem yf(a b:Int):aB (gL a b) 0=aB a b:=by
 unfold gL;cases h:aB a b with
 |true=>rfl
 |false=>cases h2:aB b a<;>rfl
noncomputable def oZ(l:List PSpan)(d:Int):Nat:=(l.takeWhile fun s=>aB s.from_ d).length
theorem Et(l:List PSpan)(d:Int):oZ l d<=l.length:=by
 induction l with
 |nil=>simp[oZ]
 |cons a r ih=>grind[oZ,List.takeWhile_cons]
def sf(l:List PSpan):Prop:=l.Pairwise fun a b=>a.from_<=b.from_
theorem AG{d:Int}:∀{l:List PSpan},sf l->∀k,k<l.length->(aB (gD l k).from_ d=true↔k<oZ l d)
 |[],_,k,h=>by simp_all
 | a::r,hs,k,h=>by
  obtain⟨h1,h2⟩:=j9.1 hs;unfold oZ;rw[List.takeWhile_cons];cases q:aB a.from_ d with
  | true=>
   simp only[if_true,cO];cases k with
   |zero=>grind[gD]
   |succ k=>
    have:=AG (d:=d) h2 k (by simp_all);rw[show gD (a::r) (k+1)=gD r k from rfl,this];grind[oZ]
  |false=>
   simp only[gh,if_false,gP,np,iff_false,Bool.not_eq_true];have hd:=aE q;grind[ig,kw]
noncomputable def JK(l:List PSpan)(d:Int):Bool:=aB (Int.ofNat (oZ l d)) (Int.ofNat l.length)&&ae (gL (gD l (oZ l d)).from_ d) 0
theorem Ov{l:List PSpan}(h:l.Pairwise fun a b=>a.to<b.from_)(h2:∀s,s∈l->s.from_<s.to):sf l:=by
 induction l with
 |nil=>exact .nil
 |cons a r ih=>
  obtain⟨h3,h4⟩:=j9.1 h;refine j9.2 ⟨fun b hb=>?_,ih h4 fun s hs=>h2 s (fQ _ hs)⟩;grind
structure NrmS(l:List PSpan):Prop where
 gap:l.Pairwise fun a b=>a.to<b.from_
 ok:∀s,s∈l->0<=s.from_/\s.from_<s.to/\s.to<=1048577
theorem NrmS.sort{l:List PSpan}(h:NrmS l):sf l:=Ov h.gap fun s hs=>(h.ok s hs).2.1
theorem IX:∀{l:List PSpan}{b:Int},l.Pairwise (fun a b=>a.to<b.from_)->(∀s,s∈l->b<=s.from_/\s.from_<s.to/\s.to<=1048577)->b<=1048577->Int.ofNat l.length<=1048577-b
 |[],b,_,_,hb=>by simp_all
 |a::r,b,h,h2,hb=>by
  obtain⟨h3,h4⟩:=j9.1 h;have h5:=h2 a (e9 ..);have:=IX (l:=r) (b:=b+1) h4 (fun s hs=>by grind) (by omega);grind
theorem NrmS.len{l:List PSpan}(h:NrmS l):l.length<=1048577:=by
 have:=IX (b:=0) h.gap h.ok (by omega);grind
noncomputable def iM(l:List PSpan)(d:Int):Bool:=JK l d||(aB 0 (Int.ofNat (oZ l d))&&aB d (gD l (oZ l d-1)).to)
theorem D9(a b:Int):Cu a b=max a b:=by
 unfold Cu;cases h:aB a b with
 |true=>have:=aA h;grind
 |false=>have:=aE h;grind
theorem I6(a b:Int):Nw a b=min a b:=by
 unfold Nw;cases h:aB b a with
 |true=>have:=aA h;grind
 |false=>have:=aE h;grind
noncomputable abbrev VT(s:PSpan):PSpan:=⟨Cu s.from_ 0,Nw s.to 1048577⟩
noncomputable abbrev X4(s:PSpan):Bool:=aB (Cu s.from_ 0) (Nw s.to 1048577)
noncomputable def jr:List PSpan->List PSpan
 |[]=>[]
 |s::r=>match X4 s with|true=>VT s::jr r|false=>jr r
theorem vX{s:PSpan}{r:List PSpan}(h:X4 s=true):jr (s::r)=VT s::jr r:=by grind[jr]
theorem vW{s:PSpan}{r:List PSpan}(h:X4 s=false):jr (s::r)=jr r:=by grind[jr]
theorem Dj:∀(l:List PSpan),(jr l).length<=l.length
 |[]=>by simp[jr]
 |s::r=>by
  have:=Dj r;cases h:X4 s with
  |true=>grind[vX]
  |false=>grind[vW]
theorem AL:∀{l:List PSpan}{s:PSpan},s∈jr l->0<=s.from_/\s.from_<s.to/\s.to<=1048577
 | a::r,s,hs=>by
  cases h:X4 a with
  |true=>
   rw[vX h]at hs;rcases fk.1 hs with e|e
   ·subst e;have h2:=aA h;grind[D9,I6]
   ·exact AL e
  |false=>rw[vW h]at hs;exact AL hs
def memB(l:List PSpan)(d:Int):Bool:=l.any fun s=>decide (s.from_<=d/\d<s.to)
def Od(d:Int):Bool:=decide (0<=d/\d<1048577)
theorem m7(d:Int):memB [] d=false:=rfl
theorem eg(a:PSpan)(l:List PSpan)(d:Int):memB (a::l) d=(decide (a.from_<=d/\d<a.to)||memB l d):=rfl
theorem zB(l r:List PSpan)(d:Int):memB (l++r) d=(memB l d||memB r d):=by simp[memB]
theorem jo{l:List PSpan}{d:Int}:memB l d=true↔∃s,s∈l/\s.from_<=d/\d<s.to:=by simp[memB]
theorem Ny{l r:List PSpan}(h:l.Perm r)(d:Int):memB l d=memB r d:=by
 rw[Dm,jo,jo];grind
theorem Dx:∀(l:List PSpan)(d:Int),memB (jr l) d=(Od d&&memB l d)
 |[],d=>by simp[jr,memB]
 | a::r,d=>by
  have ih:=Dx r d;have e:∀b:Bool,(b=decide (0<=d/\d<1048577/\a.from_<=d/\d<a.to))->(b||(Od d&&memB r d))=(Od d&&memB (a::r) d):=fun b hb=>by grind[eg,Od]
  cases h:X4 a with
  |true=>
   rw[vX h,eg,ih];refine e _ ?_;simp only[D9,I6];grind
  |false=>
   rw[vW h,ih];have h2:=aE h;simp only[D9,I6]at h2;grind
theorem NrmS.tail{a:PSpan}{r:List PSpan}(h:NrmS (a::r)):NrmS r:=⟨(j9.1 h.gap).2,fun s hs=>h.ok s (fQ _ hs)⟩
theorem NrmS.low{a x:PSpan}{r:List PSpan}(h:NrmS (a::r))(hx:x∈r):a.to<x.from_:=(j9.1 h.gap).1 x hx
theorem NrmS.head{a:PSpan}{r:List PSpan}(h:NrmS (a::r)):0<=a.from_/\a.from_<a.to/\a.to<=1048577:=h.ok a (e9 ..)
theorem yq:NrmS []:=⟨.nil,fun s h=>by grind⟩
theorem rm{a:PSpan}{r:List PSpan}(h:NrmS (a::r)):memB (a::r) a.from_=true:=by grind[eg,cases NrmS]
theorem Gz{a:PSpan}{r:List PSpan}(h:NrmS (a::r)){d:Int}(hd:memB (a::r) d=true):a.from_<=d:=by
 obtain⟨s,h1,h2,h3⟩:=jo.1 hd;rcases fk.1 h1 with e|e
 ·simp_all
 ·have:=h.low e;grind[cases NrmS]
theorem P3{a:PSpan}{r:List PSpan}(h:NrmS (a::r)):memB (a::r) a.to=false:=by
 cases q:memB (a::r) a.to with
 |false=>rfl
 |true=>
  obtain⟨s,h1,h2,h3⟩:=jo.1 q;rcases fk.1 h1 with e|e
  ·simp_all
  ·have:=h.low e;omega
theorem Gq{a:PSpan}{r:List PSpan}(h:NrmS (a::r))(d:Int):memB r d=(decide (a.to<=d)&&memB (a::r) d):=by
 rw[eg];by_cases h1:a.to<=d
 ·grind
 ·have:memB r d=false:=by
   cases q:memB r d with
   |false=>rfl
   |true=>
    obtain⟨s,h2,h3,h4⟩:=jo.1 q;have:=h.low h2;omega
  grind
theorem zi:∀{r s:List PSpan},NrmS r->NrmS s->(∀d,memB r d=memB s d)->r=s
 |[],[],_,_,_=>rfl
 |[],b::s,_,hs,h=>by grind[rm,m7]
 |a::r,[],hr,_,h=>by grind[rm,m7]
 | a::r,b::s,hr,hs,h=>by
  have h1:b.from_<=a.from_:=Gz hs (by grind[rm]);have h2:a.from_<=b.from_:=Gz hr (by grind[rm]);have ha:=hr.head;have hb:=hs.head;have h3:¬a.to<b.to:=fun q=>by grind[eg,P3]
  have h4:¬b.to<a.to:=fun q=>by grind[eg,P3]
  have e:a=b:=by
   obtain⟨a1,a2⟩:=a;obtain⟨b1,b2⟩:=b;grind
  subst e;rw[zi hr.tail hs.tail fun d=>by rw[Gq hr,Gq hs,h]]
def wa(f:Int->Bool)(d:Int)(l:List PSpan):List PSpan:=match f d with
 |false=>l
 |true=>match l with
  |[]=>[⟨d,d+1⟩]
  |s::r=>if s.from_=d+1 then⟨d,s.to⟩::r else⟨d,d+1⟩::s::r
def wI(f:Int->Bool):Nat->List PSpan
 |0=>[]
 |k+1=>wa f (1048577-Int.ofNat (k+1)) (wI f k)
theorem OU{f:Int->Bool}{d:Int}{l:List PSpan}(h0:0<=d)(h1:d+1<=1048577)(hl:NrmS l)(hf:∀s,s∈l->d+1<=s.from_):
  NrmS (wa f d l)/\(∀s,s∈wa f d l->d<=s.from_)/\∀e,memB (wa f d l) e=((decide (e=d)&&f e)||memB l e):=by
 unfold wa;cases hfd:f d with
 |false=>grind
 | true=>
  match l,hl,hf with
  |[],_,_=>
   refine⟨⟨by simp,fun s hs=>by grind⟩,fun s hs=>by simp_all,fun e=>?_⟩;simp only[eg,m7,Bool.or_false];grind
  | s::r,hl,hf=>
   have hs:=hl.head;have hs2:=hf s (e9 ..);simp only[];by_cases q:s.from_=d+1
   ·rw[if_pos q];refine⟨⟨j9.2 ⟨fun x hx=>hl.low hx,hl.tail.gap⟩,fun x hx=>?_⟩,fun x hx=>?_,fun e=>?_⟩
    ·grind[cases NrmS]
    ·grind
    ·simp only[eg];grind
   ·rw[if_neg q];refine⟨⟨j9.2 ⟨fun x hx=>?_,hl.gap⟩,fun x hx=>?_⟩,fun x hx=>?_,fun e=>?_⟩
    ·have:=hf x hx;rcases fk.1 hx with e|e
     ·grind
     ·have:=hl.low e;grind
    ·rcases fk.1 hx with e|e
     ·grind
     ·exact hl.ok x e
    ·grind
    ·rw[eg];grind
theorem F0(f:Int->Bool):∀k,k<=1048577->NrmS (wI f k)/\(∀s,s∈wI f k->1048577-Int.ofNat k<=s.from_)/\∀e,memB (wI f k) e=(decide (1048577-Int.ofNat k<=e/\e<1048577)&&f e)
 |0,_=>by
  refine⟨yq,fun s h=>(by cases h),fun e=>?_⟩;have:decide (1048577-Int.ofNat 0<=e/\e<1048577)=false:=by simp_all
  rw[this];rfl
 |k+1,hk=>by
  obtain⟨h1,h2,h3⟩:=F0 f k (by omega);simp only[aN]at *;have:=OU (f:=f) (d:=1048577-((k+1:Nat):Int)) (l:=wI f k) (by omega) (by omega) h1 (fun s hs=>by grind);have h5:wI f (k+1)=wa f (1048577-((k+1:Nat):Int)) (wI f k):=by grind[wI]
  grind
theorem P5(f:Int->Bool):∃l:List PSpan,NrmS l/\∀d,memB l d=(Od d&&f d):=by
 obtain⟨h1,_,h3⟩:=F0 f 1048577 (ah _);exact⟨_,h1,fun d=>by simp_all[Od]⟩
noncomputable def nf(f:Int->Bool):List PSpan:=Classical.choose (P5 f)
theorem zn(f:Int->Bool):NrmS (nf f):=(Classical.choose_spec (P5 f)).1
theorem I3(f:Int->Bool)(d:Int):memB (nf f) d=(Od d&&f d):=(Classical.choose_spec (P5 f)).2 d
theorem P6{f:Int->Bool}{r:List PSpan}(h:NrmS r)(hm:∀d,memB r d=(Od d&&f d)):r=nf f:=zi h (zn f) fun d=>by grind[I3]
theorem P7{f g:Int->Bool}(h:∀d,Od d=true->f d=g d):nf f=nf g:=P6 (zn f) fun d=>by
 rw[I3];grind
theorem TC{l:List PSpan}(h:NrmS l):l=nf (memB l):=P6 h fun d=>by
 cases q:memB l d with
 |false=>simp_all
 |true=>
  obtain⟨s,h1,h2,h3⟩:=jo.1 q;have:=h.ok s h1;have:Od d=true:=by unfold Od;grind
  simp_all
theorem Dr{α:Type}[Inhabited α]{l:List α}{n:Nat}(h:n<l.length):l.take (n+1)=l.take n++[gD l n]:=by grind[List.take_add_one,gD]
theorem Ei{α:Type}[Inhabited α]{l:List α}{n:Nat}(h:n<l.length):l.drop n=gD l n::l.drop (n+1):=by grind[List.drop_eq_getElem_cons,gD]
theorem tP{α:Type}{l:List α}{n m:Nat}{x:α}(h:n<=m):(l.set m x).take n=l.take n:=by
 apply List.ext_getElem?;grind
theorem QT{α:Type}[Inhabited α]{l:List α}{i k:Nat}{x:α}(h:i<l.length):gD (l.set i x) k=if k=i then x else gD l k:=by
 unfold gD List.getD;grind
theorem sf.at{l:List PSpan}(h:sf l){i k:Nat}(hik:i<=k)(hk:k<l.length):(gD l i).from_<=(gD l k).from_:=by
 rcases eA i k with q|q
 ·have:=JP.1 h i k (by omega) hk q;grind[gD]
 grind
structure MergeI(l cur:List PSpan)(n i:Nat):Prop where
 len:cur.length=l.length
 le:n<=i
 il:i<=l.length
 pos:0<i->0<n
 rest:∀k,i<=k->k<l.length->gD cur k=gD l k
 gap:∀j k,j<k->k<n->(gD cur j).to<(gD cur k).from_
 ok:∀k,k<n->0<=(gD cur k).from_/\(gD cur k).from_<(gD cur k).to/\(gD cur k).to<=1048577
 last:0<n->∀k,i<=k->k<l.length->(gD cur (n-1)).from_<=(gD l k).from_
 mem:∀d,(memB (cur.take n) d||memB (l.drop i) d)=memB l d
theorem MergeI.start(l:List PSpan):MergeI l l 0 0:=⟨rfl,ah _,bD _,fun h=>absurd h (wg _),fun _ _ _=>rfl,fun _ _ _ h=>absurd h (np _),fun _ h=>absurd h (np _),fun h=>absurd h (wg _),fun d=>by simp[memB]⟩
theorem MergeI.copy{l cur:List PSpan}{n i:Nat}(h:MergeI l cur n i)(hi:i<l.length)(hs:sf l)(hok:∀k,k<l.length->0<=(gD l k).from_/\(gD l k).from_<(gD l k).to/\(gD l k).to<=1048577)
  (hn:n=0\/(gD cur (n-1)).to<(gD cur i).from_):MergeI l (cur.set n (gD cur i)) (n+1) (i+1):=by
 rw[h.rest i (ah _) hi]at hn ⊢;have hl:=h.le;have hcl:=h.len;have hg:∀k,gD (cur.set n (gD l i)) k=if k=n then gD l i else gD cur k:=fun k=>QT (by omega)
 refine⟨by simp_all,by omega,by omega,fun _=>by omega,fun k h1 h2=>?_,fun j k h1 h2=>?_,fun k h1=>?_,fun _ k h1 h2=>?_,fun d=>?_⟩
 ·grind[cases MergeI]
 ·rw[hg,hg,if_neg (by omega)];by_cases e:k=n
  ·rw[if_pos e];rcases hn with hn|hn
   ·omega
   ·by_cases e2:j=n-1
    ·simp_all
    ·have h3:=h.gap j (n-1) (by omega) (by omega);grind[cases MergeI]
  ·grind[cases MergeI]
 ·rw[hg];by_cases e:k=n
  ·simp_all
  ·grind[cases MergeI]
 ·rw[hg,if_pos (by omega)];exact hs.at (by omega) h2
 ·rw[Dr (by grind),hg,if_pos rfl,tP (ah _),zB,<-h.mem d,Ei hi,eg,eg,m7];grind
theorem MergeI.join{l cur:List PSpan}{n i:Nat}(h:MergeI l cur n i)(hi:i<l.length)(hs:sf l)(hok:∀k,k<l.length->0<=(gD l k).from_/\(gD l k).from_<(gD l k).to/\(gD l k).to<=1048577)
  (hn:0<n)(hle:(gD cur i).from_<=(gD cur (n-1)).to)(x:Int)(hx:x=Cu (gD cur (n-1)).to (gD cur i).to):MergeI l (cur.set (n-1) ⟨(gD cur (n-1)).from_,x⟩) n (i+1):=by
 rw[h.rest i (ah _) hi]at hle;rw[h.rest i (ah _) hi,D9]at hx;have hl:=h.le;have hcl:=h.len;have hg:∀k,gD (cur.set (n-1) ⟨(gD cur (n-1)).from_,x⟩) k=if k=n-1 then⟨(gD cur (n-1)).from_,x⟩else gD cur k:=fun k=>QT (by omega)
 have h4:=h.ok (n-1) (by omega);have h5:=hok i hi;have h6:=h.last hn i (ah _) hi;refine⟨by simp_all,by omega,by omega,fun _=>hn,fun k h1 h2=>?_,fun j k h1 h2=>?_,fun k h1=>?_,fun _ k h1 h2=>?_,fun d=>?_⟩
 ·grind[cases MergeI]
 ·rw[hg,hg,if_neg (by omega)];by_cases e:k=n-1
  ·grind[cases MergeI]
  ·grind[cases MergeI]
 ·rw[hg];by_cases e:k=n-1
  ·grind
  ·grind[cases MergeI]
 ·grind[cases MergeI]
 ·obtain⟨m,rfl⟩:∃m,n=m+1:=⟨n-1,by omega⟩
  simp only[Nat.add_sub_cancel]at *;rw[Dr (by grind),hg,if_pos rfl,tP (ah _),zB,<-h.mem d,Ei hi,eg (gD l i),Dr (by omega),zB,eg,eg,m7,Bool.or_false,Bool.or_false];grind
theorem MergeI.nrm{l cur:List PSpan}{n i:Nat}(h:MergeI l cur n i):NrmS (cur.take n):=by
 have hl:=h.le;have hcl:=h.len;have hil:=h.il;have hlen:(cur.take n).length=n:=by grind
 have hg:∀k (hk:k<(cur.take n).length),(cur.take n)[k]=gD cur k:=fun k hk=>by rw[List.getElem_take];unfold gD List.getD;grind
 refine⟨?_,fun s hs=>?_⟩;all_goals grind[List.pairwise_iff_getElem,List.getElem_of_mem,cases MergeI]
theorem MergeI.done{l cur:List PSpan}{n i:Nat}(h:MergeI l cur n i)(hi:l.length<=i)(d:Int):memB (cur.take n) d=memB l d:=by rw[<-h.mem d,BH hi,m7,Bool.or_false]
theorem R9{l l':List PSpan}(hp:l'.Perm (jr l)):∀k,k<l'.length->0<=(gD l' k).from_/\(gD l' k).from_<(gD l' k).to/\(gD l' k).to<=1048577:=fun k hk=>AL (hp.mem_iff.1 (ig hk))
noncomputable def jx(l:List PSpan):List PSpan:=nf (memB l)
theorem Gj{l r:List PSpan}(h:NrmS r)(hm:∀d,memB r d=memB (jr l) d):r=jx l:=P6 h fun d=>by grind[Dx]
theorem Nz{l:List PSpan}(h:jr l=[]):[]=jx l:=Gj yq fun d=>by grind
theorem Jp{zs:List Int}(hs:zs.Pairwise fun a b=>a<=b):(ba zs).Pairwise (fun a b=>a<b)/\∀z,z∈ba zs↔z∈zs:=by
 generalize hd:zs.toArray=d;have hsz:d.size=zs.length:=by grind
 have hx:∀j (hj:j<zs.length),d[j]! =zs[j]:=fun j hj=>by grind
 have mono:∀i j,i<=j->j<zs.length->d[i]!<=d[j]!:=fun i j hij hj=>by
  rcases eA i j with q|q
  ·rw[hx i (by omega),hx j hj];exact JP.1 hs i j (by omega) hj q
  grind
 have key:∀m,m<=zs.length->(Lib.compactUpTo d m).Pairwise (fun a b=>a<b)/\(∀z,z∈Lib.compactUpTo d m->∃j,j<m/\z=d[j]!)/\∀j,j<m->d[j]!∈Lib.compactUpTo d m:=by
  intro m;induction m with
  |zero=>simp_all[Lib.compactUpTo]
  | succ m ih=>
   intro hm;obtain⟨h1,h2,h3⟩:=ih (by omega);rw[Lib.compactUpTo_succ];cases hk:Lib.keeps d m with
   | true=>
    simp only[if_true];have hk':m=0\/d[m]!≠d[m-1]!:=by grind[Lib.keeps]
    refine⟨List.pairwise_append.2 ⟨h1,by simp,fun a ha b hb=>?_⟩,fun z hz=>?_,fun j hj=>?_⟩
    ·obtain⟨j,hj,rfl⟩:=h2 a ha;have hb:b=d[m]!:=by simp_all
     subst hb;have e1:=mono j (m-1) (by omega) (by omega);have e2:=mono (m-1) m (by omega) (by omega);omega
    all_goals grind
   |false=>
    simp only[gh,if_false,ei];have hk':¬(m=0\/d[m]!≠d[m-1]!):=by grind[Lib.keeps]
    grind
 obtain⟨h1,h2,h3⟩:=key zs.length (ah _);have e:ba zs=Lib.compactUpTo d zs.length:=by grind[ba,Lib.compact]
 rw[e];refine⟨h1,fun z=>⟨fun hz=>?_,fun hz=>?_⟩⟩
 ·grind
 ·obtain⟨j,hj,rfl⟩:=FX hz;simp_all
theorem NrmS.at{l:List PSpan}(h:NrmS l){j k:Nat}(hjk:j<k)(hk:k<l.length):(gD l j).to<(gD l k).from_:=by
 have:=JP.1 h.gap j k (by omega) hk hjk;grind[gD]
theorem NrmS.okAt{l:List PSpan}(h:NrmS l){k:Nat}(hk:k<l.length):0<=(gD l k).from_/\(gD l k).from_<(gD l k).to/\(gD l k).to<=1048577:=h.ok _ (ig hk)
theorem TR{l:List PSpan}{d:Int}:memB l d=true↔∃k,k<l.length/\(gD l k).from_<=d/\d<(gD l k).to:=by
 rw[jo];constructor
 ·rintro⟨s,h1,h2⟩
  obtain⟨k,hk,e⟩:=FX h1;have:gD l k=s:=by grind[gD]
  grind
 grind[ig]
theorem DY {a b:Int}:ae (gL a b) 0=true↔a=b:=by
 unfold gL;cases h:aB a b with
 | true => have:=aA h;constructor
           ·intro h;cases h
           omega
 |false=>
  have:=aE h;cases h2:aB b a with
  | true => have:=aA h2;constructor
            ·intro h;cases h
            omega
  |false=>have:=aE h2;exact⟨fun _=>by omega,fun _=>rfl⟩
theorem TP{l:List PSpan}(h:NrmS l)(d:Int):iM l d=memB l d:=by
 have hi:=AG (d:=d) h.sort;have hc:=Et l d;rw[Dm,TR];unfold iM JK;simp only[tf,bj];constructor
 ·rintro(⟨h1,h2⟩|⟨h1,h2⟩)
  ·have h1:=aA h1;simp only[aN]at h1;have h2:=DY.1 h2;have:=h.okAt (k:=oZ l d) (by omega);grind
  ·have h1:=aA h1;have h2:=aA h2;simp only[aN]at h1;have h3:=aA ((hi (oZ l d-1) (by omega)).2 (by omega));grind
 ·rintro⟨k,hk,h1,h2⟩
  by_cases e:(gD l k).from_=d
  ·left;have e1:¬k<oZ l d:=fun q=>by have:=aA ((hi k hk).2 q);omega
   have e2:¬oZ l d<k:=fun q=>by
    have h3:=h.at q hk;have h4:=h.okAt (k:=oZ l d) (by omega);grind[nG]
   have e3:oZ l d=k:=by omega
   rw[e3];exact⟨nG (by simp_all),DY.2 e⟩
  ·right;have e1:k<oZ l d:=(hi k hk).1 (nG (by omega));have e2:¬k+1<oZ l d:=fun q=>by
    have h3:=h.at (j:=k) (k:=k+1) (by omega) (by omega);have:=aA ((hi (k+1) (by omega)).2 q);omega
   grind[nG]
def ph(l:List PSpan):List Int:=l.flatMap fun s=>[s.from_,s.to]
theorem DX(s:PSpan)(r:List PSpan):ph (s::r)=[s.from_,s.to]++ph r:=by simp[ph]
theorem kg:∀(l:List PSpan),(ph l).length=2*l.length
 |[]=>rfl
 |s::r=>by rw[DX];simp[kg r];omega
theorem Hc{l:List PSpan}{s:PSpan}(h:s∈l):s.from_∈ph l/\s.to∈ph l:=by
 unfold ph;grind
def kY(g:Int->Bool):List Int->List PSpan
 |[]=>[]
 | a::r=>match r with
  |[]=>[]
  |b::_=>match g a with
   |true=>⟨a,b⟩::kY g r
   |false=>kY g r
theorem FO(g:Int->Bool)(a b:Int)(r:List Int):kY g (a::b::r)=match g a with|true=>⟨a,b⟩::kY g (b::r)|false=>kY g (b::r):=by rw[kY]
def sk:Int->List Int->Int
 |a,[]=>a
 |_,b::r=>sk b r
theorem z8:∀{r:List Int}{a:Int},(a::r).Pairwise (fun a b=>a<b)->a<=sk a r/\∀z,z∈r->z<=sk a r
 |[],a,_=>⟨Int.le_refl _,fun z h=>by grind⟩
 |b::r,a,h=>by
  obtain⟨h1,h2⟩:=j9.1 h;have h3:=h1 b (e9 ..);obtain⟨k1,k2⟩:=z8 h2;grind[sk]
theorem FP{g:Int->Bool}{C:List Int}(hg:∀x y,(∀z,z∈C->z<=x\/y<=z)->∀d,x<=d->d<y->g d=g x):
  ∀(r:List Int)(a:Int),(a::r).Pairwise (fun a b=>a<b)->(∀z,z∈C->z<=a\/z∈r)->∀d,memB (kY g (a::r)) d=(decide (a<=d/\d<sk a r)&&g d)
 |[],a,_,_,d=>by
  have:decide (a<=d/\d<sk a [])=false:=by grind[sk]
  rw[this];rfl
 | b::r,a,hp,hC,d=>by
  obtain⟨h1,h2⟩:=j9.1 hp;have hab:=h1 b (e9 ..);obtain⟨hb2,h3⟩:=j9.1 h2;have hl:=(z8 h2).1;have ih:=FP hg r b h2 (fun z hz=>by grind) d;have hc:∀d,a<=d->d<b->g d=g a:=hg a b fun z hz=>by grind
  have e0:memB (kY g (a::b::r)) d=((g a&&decide (a<=d/\d<b))||memB (kY g (b::r)) d):=by
   rw[FO];cases g a with
   |true=>rw[eg,Bool.true_and]
   |false=>simp_all
  rw[e0,ih,show sk a (b::r)=sk b r from rfl];grind
def io(A:List PSpan):List Int:=ba (dP (ph A))
theorem LG(A:List PSpan):(io A).Pairwise (fun a b=>a<b)/\∀z,z∈io A↔z∈ph A:=by
 obtain⟨h1,h2⟩:=Jp (DA (ph A));exact⟨h1,fun z=>(h2 z).trans (lX (ph A)).mem_iff⟩
theorem zA{A l:List PSpan}(hl:∀s,s∈l->s∈A){x y:Int}(hz:∀z,z∈io A->z<=x\/y<=z){d:Int}(h1:x<=d)(h2:d<y):memB l d=memB l x:=by
 have key:∀s,s∈l->((s.from_<=d/\d<s.to)↔(s.from_<=x/\x<s.to)):=fun s hs=>by
  obtain⟨k1,k2⟩:=Hc (hl s hs);grind[LG]
 rw[Dm,jo,jo];grind
theorem MF{op:Bool->Bool->Bool}(h0:op false false=false)(A B:List PSpan)(d:Int):memB (kY (fun d=>op (memB A d) (memB B d)) (io (A++B))) d=op (memB A d) (memB B d):=by
 obtain⟨h1,h2⟩:=LG (A++B);have out:∀(z1 z2:Int),(∀z,z∈io (A++B)->z1<=z/\z<=z2)->¬(z1<=d/\d<z2)->op (memB A d) (memB B d)=false:=fun z1 z2 hz hd=>by
  have no:∀l:List PSpan,(∀s,s∈l->s∈A++B)->memB l d=false:=fun l hl=>by
   cases q:memB l d with
   |false=>rfl
   |true=>
    obtain⟨s,k1,k2,k3⟩:=jo.1 q;obtain⟨k4,k5⟩:=Hc (hl s k1);grind
  simp_all
 cases hC:io (A++B)with
 |nil=>
  rw[kY,m7];exact(out (d+1) d (fun z hz=>by grind) (by omega)).symm
 | cons a r=>
  rw[hC]at h1;have hl:=z8 h1;have hp:=(j9.1 h1).1;rw[FP (C:=io (A++B)) (fun x y hz d h3 h4=>by
   show op (memB A d) (memB B d)=op (memB A x) (memB B x)
   rw[zA (A:=A++B) (fun s hs=>FZ _ hs) hz h3 h4,zA (A:=A++B) (fun s hs=>FQ _ hs) hz h3 h4]) r a h1 (fun z hz=>by
   grind) d]
  by_cases q:a<=d/\d<sk a r;all_goals grind
theorem AB(A:List PSpan):(io A).length<=2*A.length:=by
 have:=xl (dP (ph A));have h2:=(lX (ph A)).length_eq;grind[kg,io]
theorem Ck{g:Int->Bool}{C:List Int}{x:Nat}(h1:1<=x)(h2:x<C.length):kY g (C.drop (x-1))=match g (gD C (x-1))with|true=>⟨gD C (x-1),gD C x⟩::kY g (C.drop (x+1-1))|false=>kY g (C.drop (x+1-1)):=by grind[Ei,FO]
theorem ld{g:Int->Bool}{C:List Int}{x:Nat}(h1:1<=x)(h2:C.length<=x):kY g (C.drop (x-1))=[]:=by
 have:(C.drop (x-1)).length<=1:=by simp_all
 match C.drop (x-1),this with
 |[],_=>rfl
 |[_],_=>rfl
 |_::_::_,h=>simp_all
noncomputable def se(op:Bool->Bool->Bool)(a b:List PSpan):List PSpan:=nf fun d=>op (memB a d) (memB b d)
theorem mC(l:List PSpan):NrmS (jx l):=zn _
theorem Cr(l:List PSpan)(d:Int):memB (jx l) d=(Od d&&memB l d):=I3 _ d
theorem N7{op:Bool->Bool->Bool}(h0:op false false=false){a b A B:List PSpan}(hA:jx a=A)(hB:jx b=B):jx (kY (fun d=>op (iM A d) (iM B d)) (io (A++B)))=se op a b:=by
 have nA:NrmS A:=hA▸mC a;have nB:NrmS B:=hB▸mC b;have e:(fun d=>op (iM A d) (iM B d))=fun d=>op (memB A d) (memB B d):=funext fun d=>by grind[TP]
 rw[e];unfold jx se;refine P7 fun d hd=>?_
 rw[MF h0,<-hA,<-hB,Cr,Cr,hd,Bool.true_and,Bool.true_and]
section
variable{H:Type}{enc:TypeId×Value->H}{P:Program}{w:World}{base:Nat}{spare:Nat->Bool}{held:Bool}
inductive VL(M:dA):List AV->List Value->Prop
 |nil:VL M [] []
 |cons {x:AV} {v:Value} {xs:List AV} {vs:List Value} (h:VRel (fun _=>none) M x v) (t:VL M xs vs):VL M (x::xs) (v::vs)
theorem VL.append{M:dA}{xs ys:List AV}{a b:List Value}(h:VL M xs a)(k:VL M ys b):VL M (xs++ys) (a++b):=by
 induction h with
 |nil=>grind
 |cons h _ ih=>exact .cons h ih
theorem VL.len{M:dA}{xs:List AV}{a:List Value}(h:VL M xs a):xs.length=a.length:=by
 induction h with
 |nil=>rfl
 |cons _ _ ih=>simp_all
theorem VL.at_{M:dA}{xs:List AV}{a:List Value}(h:VL M xs a):∀(j:Nat)(y:AV),xs[j]?=some y->∃v,a[j]?=some v/\VRel (fun _=>none) M y v:=by
 induction h with
 |nil=>simp_all
 |cons h _ ih=>grind
theorem VL.one{M:dA}{x:AV}{cs:List Value}(h:VL M [x] cs):∃v,cs=[v]/\VRel (fun _=>none) M x v:=by
 cases h with
 |cons h t=>cases t;simp_all
def Wt(P:Program)(t:TypeId)(d:DataW H):Prop:=∀m,m∈d.weights P t->m<=reachBytes
theorem qz{e:TypeId}{d:DataW H}{m:Nat}(hm:m∈d.weights P e):∀{l:List (DataW H)},d∈l->m∈DataW.weightsAll P e l
 |[],h=>by grind
 |a::r,h=>by
  unfold DataW.weightsAll;rcases fk.1 h with rfl|h
  ·simp_all
  ·exact FQ _ (qz hm h)
theorem gK{t:TypeId}{d:DataW H}{m:Nat}(hm:m∈d.weights P t):∀{ts:List TypeId}{l:List (DataW H)}(i:Nat),ts[i]?=some t->l[i]?=some d->m∈DataW.weightsEach P ts l
 |[],_,i,h,_=>by simp_all
 |_::_,[],i,_,h=>by simp_all
 |u::ts,a::r,i,h1,h2=>by
  unfold DataW.weightsEach;cases i with
  |zero=>simp_all
  |succ i=>exact FQ _ (gK hm i (by simp_all) (by simp_all))
def Es(P:Program):List Field->Nat->Nat->Bool
 |[],off,n=>Nat.beq off n
 |f::r,off,n=>Nat.beq f.offset off&&Es P r (off+P.cellsOf f.type) n
def VF(M:dA)(P:Program)(cs:List Value):List Field->List (List AV)->Prop
 |[],[]=>True
 |f::fs,xs::xss=>VL M xs ((cs.drop f.offset).take (P.cellsOf f.type))/\VF M P cs fs xss
 |_,_=>False
theorem VF.vl{M:dA}{cs:List Value}:∀{fs:List Field}{xss:List (List AV)}{off:Nat},Es P fs off cs.length=true->VF M P cs fs xss->VL M xss.flatten (cs.drop off)
 |[],[],off,h,_=>by
  have:=pB h;rw[this,List.drop_length];exact .nil
 |[],_::_,_,_,h=>h.elim
 |_::_,[],_,_,h=>h.elim
 |f::fs,xs::xss,off,h,k=>by
  unfold Es at h;rw[bj]at h;have ho:=pB h.1;have h1:=k.1;rw[ho]at h1;have h2:=VF.vl h.2 k.2;have e:cs.drop off=(cs.drop off).take (P.cellsOf f.type)++cs.drop (off+P.cellsOf f.type):=by grind[List.drop_drop,List.take_append_drop]
  rw[List.flatten_cons,e];exact h1.append h2
def TF(enc:TypeId×Value->H)(P:Program)(w:World)(base:Nat)(spare:Nat->Bool)(held:Bool)(n:Nat)(cs:List Value):List Field->Prop
 |[]=>True
 |f::fs=>(∃d p,DataW.trod enc P w base spare held n f.type ((cs.drop f.offset).take (P.cellsOf f.type))=some (d,p)/\Wt P f.type d)/\TF enc P w base spare held n cs fs
theorem V2{n:Nat}{cs:List Value}:∀(fs:List Field),(∀(i:Nat)(f:Field),fs[i]?=some f->∃d p,DataW.trod enc P w base spare held n f.type ((cs.drop f.offset).take (P.cellsOf f.type))=some (d,p)/\Wt P f.type d)->TF enc P w base spare held n cs fs
 |[],_=>trivial
 |f::fs,h=>⟨h 0 f rfl,V2 fs fun i g hg=>h (i+1) g (by simp_all)⟩
theorem gu{t:TypeId}{fs:Array Field}{fuel:Nat}{cs:List Value}{d:DataW H}{p:List MemPlace}(hu:P.underlying t=some (.struct fs))(hc:Es P fs.toList 0 (P.cellsOf t)=true)
  (h:DataW.trod enc P w base spare held fuel t cs=some (d,p))(hw:Wt P t d):
  ∃n,fuel=n+1/\TF enc P w base spare held n cs fs.toList/\∀xss,VF (b0 w) P cs fs.toList xss->VL (b0 w) xss.flatten cs:=by
 obtain⟨xs,n,rfl,h1,h2,h3,h4⟩:=DataW.trod_struct hu h;simp only[td]at h1;obtain⟨rfl,_⟩:=h1;refine⟨n,rfl,V2 _ fun i f hf=>?_,fun xss hx=>?_⟩
 ·have hf':fs[i]?=some f:=by simp_all
  have hi:i<xs.length:=by grind
  have e:=h4 i f hf';rw[mU hi]at e;refine⟨xs[i].1,xs[i].2,e,fun m hm=>hw m ?_⟩;unfold DataW.weights;rw[hu];exact gK hm i (by simp_all) (by grind)
 ·have:=VF.vl (off:=0) (by simp_all) hx;simp_all
theorem fH{t:TypeId}{fuel:Nat}{cs:List Value}{d:DataW H}{p:List MemPlace}(hu:P.underlying t=some (.int .i64))(h:DataW.trod enc P w base spare held fuel t cs=some (d,p)):∃x,VL (b0 w) [.int .i64 x] cs:=by
 obtain⟨x,rfl,_⟩:=DataW.trod_int hu h;exact⟨x,.cons (.int _ _) .nil⟩
theorem nR{t:TypeId}{fuel:Nat}{cs:List Value}{d:DataW H}{p:List MemPlace}(hu:P.underlying t=some .string)(h:DataW.trod enc P w base spare held fuel t cs=some (d,p)):∃s,VL (b0 w) [.str s] cs:=by
 obtain⟨⟨⟨s⟩⟩,rfl,_⟩:=DataW.trod_string hu h;exact⟨s,.cons (.str _) .nil⟩
theorem LX{α:Type}{Q:Nat->α->Prop}:∀(n:Nat),(∀i,i<n->∃x,Q i x)->∃l:List α,l.length=n/\∀i x,l[i]?=some x->Q i x
 |0,_=>⟨[],rfl,fun i x h=>by simp_all⟩
 |n+1,h=>by
  obtain⟨l,h1,h2⟩:=LX n fun i hi=>h i (by omega)
  obtain⟨y,hy⟩:=h n (by omega);refine⟨l++[y],by simp_all,fun i x hx=>?_⟩;grind
theorem ZB{x:AV}(h:x.cells.all cE=true):Sc x:=fun y hy=>kI.1 h y hy
theorem Ip{α:Type}(el:α->AV)(fit:α->Prop){t e:TypeId}{fuel:Nat}{cs:List Value}{d:DataW H}{p:List MemPlace}(hu:P.underlying t=some (.slice e))(hsz:Nat.blt 0 (P.cellsOf e)=true)(hby:Nat.blt 0 (P.bytesOf e)=true)
  (hel:∀x,(el x).cells.length=P.cellsOf e)(hsc:∀x,(el x).cells.all cE=true)(htop:∀x,(el x).top=0)
  (hrec:∀m,m<fuel->∀cs d p,DataW.trod enc P w base spare held m e cs=some (d,p)->Wt P e d->∃x,fit x/\VL (b0 w) (el x).cells cs)
  (h:DataW.trod enc P w base spare held fuel t cs=some (d,p))(hw:Wt P t d):
  ∃l:List α,l.length<2^47/\(∀x,x∈l->fit x)/\VL (b0 w) [.ls (l.map el)] cs:=by
 rw[dr]at hsz hby;simp only[decide_eq_true_eq]at hsz hby;rcases DataW.trod_slice hu h with⟨rfl,_⟩|⟨a,len,cap,elems,rest,n,rfl,rfl,h1,h2,h3,h4,h5,h6,_,_⟩
 ·exact⟨[],Nat.two_pow_pos 47,fun x h=>absurd h (List.not_mem_nil),.cons .lsn .nil⟩
 ·simp only[td]at h1;obtain⟨rfl,_⟩:=h1;have hwl:len<2^47:=by
   have:=hw ((elems.length+rest.length)*P.bytesOf e) (by grind[DataW.weights]);have h7:elems.length<=(elems.length+rest.length)*P.bytesOf e:=bO (Nat.le_add_right _ _) (Nat.le_mul_of_pos_right _ hby);have:elems.length<=reachBytes:=bO h7 this;rw[h5]at this;exact nl this (by decide)
  have el0:∀i,i<len->∃x,fit x/\∃cs:List Value,cs.length=P.cellsOf e/\(∀j,j<P.cellsOf e->w.cell? ((a.add (i*P.cellsOf e)).add j)=cs[j]?)/\VL (b0 w) (el x).cells cs:=by
   intro i hi;have k5:=h6 i hi;have hi':i<elems.length:=by omega
   rw[mU hi']at k5;simp only[Option.bind_eq_some_iff]at k5;obtain⟨cs,c1,c2⟩:=k5;obtain⟨z1,z2⟩:=Dk c1;obtain⟨x,f1,f2⟩:=hrec n (by omega) cs elems[i].1 elems[i].2 c2 (fun m hm=>hw m (by
    unfold DataW.weights;rw[hu];exact fQ _ (FZ _ (qz hm (jf.2 ⟨elems[i],Dl hi',rfl⟩)))))
   grind
  obtain⟨l,q1,q2⟩:=LX len el0;refine⟨l,by omega,fun x hx=>?_,.cons ?_ .nil⟩
  ·obtain⟨i,hi⟩:=FY.1 hx;grind
  ·have q1':(l.map el).length=len:=by simp_all
   generalize hys:l.map el=ys at *;have q3:∀i y,ys[i]?=some y->∃cs:List Value,cs.length=P.cellsOf e/\(∀j,j<P.cellsOf e->w.cell? ((a.add (i*P.cellsOf e)).add j)=cs[j]?)/\VL (b0 w) y.cells cs:=by grind
   have q4:∀y,y∈ys->y.cells.length=P.cellsOf e/\Sc y:=by grind[ZB]
   have q5:aj ys=0:=by grind[aX]
   have addadd:∀i j:Nat,a.spot=none->(a.add i).add j=⟨a.block,a.off+i+j,none⟩:=by
    intro i j hs;obtain⟨blk,off,spot⟩:=a;grind[Addr.add]
   have spot:ys≠[]->a.spot=none:=by
    intro hne;obtain⟨x,hx⟩:∃x,ys[0]?=some x:=by
     cases ys with
     |nil=>simp_all
     |cons x r=>exact⟨x,rfl⟩
    grind[rH,Addr.add]
   have cell:∀(i j:Nat)(x:AV),ys[i]?=some x->j<P.cellsOf e->∃c v,b0 w a.block=some c/\c[a.off+i*P.cellsOf e+j]?=some v/\∀y,x.cells[j]?=some y->VRel (fun _=>none) (b0 w) y v:=by
    intro i j x hx hj;obtain⟨cs,c1,c2,c3⟩:=q3 i x hx;have:=c2 j hj;rw[mU (by omega),addadd _ _ (spot (by grind))]at this;obtain⟨_,c,m1,m2⟩:=rH this;refine⟨c,_,m1,m2,fun y hy=>?_⟩;obtain⟨v,g1,g2⟩:=c3.at_ j y hy;simp_all
   refine .lsp ?_ q5;by_cases hne:ys=[]
   ·subst hne;simp at q1';subst q1';exact .ps (sz:=P.cellsOf e) (c:=#[]) (by simp) (fun h=>by grind) (fun h=>absurd rfl h) (fun x h=>by simp_all) (fun i x j y h=>by simp_all)
   ·have hlen:0<ys.length:=qJ.2 hne;obtain⟨x0,hx0⟩:∃x,ys[ys.length-1]?=some x:=⟨ys[ys.length-1],by simp⟩
    obtain⟨c,v0,m1,m2,_⟩:=cell (ys.length-1) (P.cellsOf e-1) x0 hx0 (by omega);have hc:=(sZ.1 m2).1;have hfit:a.off+ys.length*P.cellsOf e<=c.size:=by
     have h1:(ys.length-1)*P.cellsOf e+P.cellsOf e=ys.length*P.cellsOf e:=by rw[<-qV];grind
     omega
    have:=VRel.ps (pl:=fun _=>none) (M:=b0 w) (xs:=ys) (tight:=false) (a:=a) (cap:=cap) (sz:=P.cellsOf e) (c:=c) (by omega) (fun h=>by grind) (fun _=>⟨spot hne,m1,hfit,hsz⟩) q4
     (fun i x j y hx hy=>by
      obtain⟨r1,_⟩:=q4 x (bm hx);have hj:j<P.cellsOf e:=by grind
      obtain⟨c',v,n1,n2,n3⟩:=cell i j x hx hj;simp_all)
    simp_all
theorem kK{α:Type}(el:α->AV)(fit:α->Prop){t e:TypeId}{fuel:Nat}{cs:List Value}{d:DataW H}{p:List MemPlace}(hu:P.underlying t=some (.slice e))(hsz:Nat.blt 0 (P.cellsOf e)=true)(hby:Nat.blt 0 (P.bytesOf e)=true)
  (hel:∀x,(el x).cells.length=P.cellsOf e)(hsc:∀x,(el x).cells.all cE=true)(htop:∀x,(el x).top=0)
  (hrec:∀m,m<fuel->∀cs d p,DataW.trod enc P w base spare held m e cs=some (d,p)->Wt P e d->∃x,fit x/\VL (b0 w) (el x).cells cs)
  (h:DataW.trod enc P w base spare held fuel t cs=some (d,p))(hw:Wt P t d):
  ∃l:List α,l.length<2^60/\(∀x,x∈l->fit x)/\VL (b0 w) [.ls (l.map el)] cs:=by
 have⟨l,h1,h2⟩:=Ip el fit hu hsz hby hel hsc htop hrec h hw;grind
end
structure PPair where
 a:Int
 b:Int
deriving Inhabited,DecidableEq
structure PRef where
 act:Int
 item:Int
deriving Inhabited,DecidableEq
def nr(u:TUnit):List PWord:=u.head++u.words
mutual
def ny:TUnit->List PWord
 |⟨_,_,_,_,_,h,w,ks⟩=>(h++w)++kR ks
def kR:List TUnit->List PWord
 |[]=>[]
 |k::r=>ny k++kR r
end
theorem L3(u:TUnit):ny u=nr u++kR u.kids:=by obtain⟨a,b,c,d,e,h,w,ks⟩:=u;rw[ny];rfl
theorem Dg:kR []=[]:=by rw[kR]
theorem tz(k:TUnit)(r:List TUnit):kR (k::r)=ny k++kR r:=by rw[kR]
theorem oh{k:Int}:∀{m:List (Int×Int)},gO k m=none->¬k∈m.map (·.1)
 |[],_=>by simp
 | (i,x)::r,h=>by
  simp only[gO]at h;cases e:ae k i with
  |true=>grind
  |false=>
   rw[e]at h;have:=oh h;grind[C8]
section
variable{u w':TUnit}{ws:List PWord}{w:PWord}{r:List PWord}{ks:List TUnit}{m x:List (Int×Int)}{c B:Int}
end
theorem VRel.ls0{pl:Pl}{M:dA}{x:Value}(h:VRel pl M (.ls []) x):VRel pl M .nils x\/VRel pl M (.ps [] false) x:=by
 cases h with
 |lsn=>exact .inl .nils
 |lsp h _=>simp_all
theorem E4{P:Program}{G:eE}{f:FuncId}{a b c:List AV}{h:AHeap}{Ψ:AV->AHeap->Prop}(hs:∀pl M vs,VRels pl M c vs->VRels pl M a vs\/VRels pl M b vs)(h1:aH P G f a h Ψ)(h2:aH P G f b h Ψ):aH P G f c h Ψ:=fun pl M w vs hg hr hv=>(hs pl M vs hv).elim (h1 pl M w vs hg hr) (h2 pl M w vs hg hr)
theorem VRels.first{pl:Pl}{M:dA}{x y z:AV}{r:List AV}{vs:Array Value}(h:VRels pl M (z::r) vs)(hs:∀v,VRel pl M z v->VRel pl M x v\/VRel pl M y v):VRels pl M (x::r) vs\/VRels pl M (y::r) vs:=by
 obtain⟨h1,h2⟩:=h;have lift:∀u,VRel pl M u (vs.getD 0 undef)->VRels pl M (u::r) vs:=fun u hu=>⟨h1,fun j y hj=>by
  cases j with
  |zero=>grind
  |succ j=>simp_all⟩
 exact(hs _ (h2 0 z rfl)).imp (lift x) (lift y)
end Go.Ev
namespace Go.Ev
open Go
theorem aM{n b m:Nat}(h1:n<=m)(h2:m<=2^40)(h3:m*b<=2^40):small n b=true:=by
 unfold small;have h4:n*b<=m*b:=eB b h1;grind[Nat.ble_eq_true_of_le]
def Yc(d:Int):List Int->List Int
 |[]=>[d]
 |x::r=>bif aB x d then x::Yc d r else bif ae x d then x::r else d::x::r
def eR(ws:List PWord)(l:List Int):List Int:=ws.foldl (fun l w=>Yc w.act l) l
def Tx{α:Type}:Result α->World
 | .ok _ w=>w
 | .halt _ w=>w
def gW:GStep->World
 | .go _ w _=>w
 | .comm _ _ _ _ w _=>w
 | .spawn _ _ w _=>w
 | .count _ w _=>w
 | .timer _ _ w _=>w
 | .alone _ _ w _=>w
 | .newcoro _ _ _ w _=>w
 | .coroswitch _ _ _ w _=>w
 | .collect _ w _=>w
 | .watch _ w _=>w
 | .ended _ w _=>w
theorem lL(es:Array Event)(g:GStep):gW (GStep.after es g)=gW g:=by cases g<;>rfl
theorem JD{α:Type}:∀(q:Ask α)(w:World),w.drawn<=(w.ask q).2.drawn
 | .done a,w=>ah _
 | .ask what range k,w=>by
  rw[World.ask];split
  ·exact JD (k 0) w
  ·exact bO (oJ _) (JD _ {w with drawn:=w.drawn+1})
theorem O3(w:World)(c:Sys):w.drawn<=(w.sys c).2.drawn:=by
 unfold World.sys;have h:=JD (Kernel.perform c w.os) w;grind
theorem xD{p:Program}{w w':World}{at_:Addr}{u:TypeId}{k:Addr}{v:Value}{b:Bool}{l:List Addr}(h:w.viewStore p at_ u k v b=.ok (w',l)):w'.drawn=w.drawn:=by
 unfold World.viewStore at h;simp only[bind,Except.bind,pure,Except.pure]at h
 repeat' split at h
 all_goals first|cases h;done|(injection h with h;injection h with h1 h2;rw[<-h1])
theorem Ag{p:Program}{w w':World}{a:Addr}{v:Value}{b:Bool}{l:List Addr}(h:w.farStore p a v b=.ok (w',l)):w'.drawn=w.drawn:=by
 unfold World.farStore at h
 repeat' split at h
 all_goals first|cases h;done|grind[xD]
theorem Ea(w:World)(a:Addr)(n:Nat):(w.freeze a n).drawn=w.drawn:=by unfold World.freeze;grind
theorem Px(p:Program){α:Type}(s:Sem α):∀(w:World),w.drawn<=(Tx (s.run p w)).drawn:=by
 induction s with
 |pure a=>exact fun w=>ah _
 |load m a k ih=>
  intro w;simp only[Sem.run]
  repeat' split
  all_goals first|exact ih _ _|exact ah _
 | store m a v k ih=>
  intro w;cases v
  all_goals simp only[Sem.run]
  all_goals first
   |exact ah _
   |((repeat' split);all_goals first|exact ah _|exact ih (w.setCell _ _)|(rename_i e;refine bO ?_ (ih _);rw[Ag e];exact ah _))
 |new o k ih=>grind[Sem.run]
 |shape r k ih=>grind[Sem.run]
 |freeze a n k ih=>intro w;simp only[Sem.run];refine bO ?_ (ih _);simp_all[Ea]
 |frozen a k ih=>grind[Sem.run]
 |getObj r k ih=>
  intro w;simp only[Sem.run]
  repeat' split
  all_goals first|exact ih _ _|exact ah _
 |setObj r o k ih=>
  intro w;simp only[Sem.run]
  repeat' split
  all_goals first|exact ih {w with heap:=w.heap.setIfInBounds r o}|exact ah _
 |choose q k ih=>
  intro w;simp only[Sem.run];grind
 |sys c k ih=>grind[Sem.run,O3]
 |program k ih=>grind[Sem.run]
 |mark m k ih=>grind[Sem.run]
 |halt h=>exact fun w=>ah _
theorem cC{p:Program}{α:Type}{s:Sem α}{w:World}{r:Result α}(h:s.run p w=r):w.drawn<=(Tx r).drawn:=h▸Px p s w
theorem TU{p:Program}{α:Type}{s:Sem α}{w:World}{es es':Array Event}{r:Result α}(h:s.runT p w es=(r,es')):w.drawn<=(Tx r).drawn:=by
 have:=Sem.runT_fst p s w es;rw[h]at this;exact cC this.symm
theorem Jh(w:World)(fd:Nat)(text:ByteArray)(o:Outcome):w.drawn<=(gW (endWith w fd text o)).drawn:=by
 unfold endWith;simp only[];have h:=O3 w (.write fd text);split;all_goals (rename_i e;rw[e]at h)
 all_goals repeat' split
 all_goals exact h
theorem xd(fr:Frame)(m:String)(w:World):w.drawn<=(gW (endThrow fr m w)).drawn:=ah _
theorem rW(p:Program)(fr:Frame)(v:Value)(w:World):w.drawn<=(gW (endPrinting p fr v w)).drawn:=by
 unfold endPrinting;simp only[]
 repeat' split
 all_goals exact ah _
theorem xe(p:Program)(fr:Frame)(cs:List Frame)(d:Option Dying)(m:String)(w:World):w.drawn<=(gW (endFatal p fr cs d m w)).drawn:=by
 unfold endFatal;simp only[];split;all_goals (rename_i e;exact cC e)
theorem Iq(p:Program)(fr:Frame)(d:Dying)(f:Fatal)(w:World):w.drawn<=(gW (writeOn p fr d f w)).drawn:=by
 unfold writeOn;split
 ·exact ah _
 ·simp only[];split;all_goals (rename_i e;exact TU e)
theorem Xl(p:Program)(fr:Frame)(d:Dying)(w:World):w.drawn<=(gW (die p fr d w)).drawn:=by
 unfold die;split
 ·grind[Iq]
 ·split
  ·split
   ·exact ah _
   grind[Jh]
  ·simp only[];split
   ·exact ah _
   ·split;all_goals (rename_i e;exact cC e)
   ·rw[lL];split;all_goals first|(rename_i e;exact cC ((Sem.runT_fst ..).symm.trans e))|skip
    ·rename_i e;exact bO (cC ((Sem.runT_fst ..).symm.trans e)) (rW ..)
    ·exact ah _
   ·exact ah _
theorem rV(p:Program)(main:Bool)(fr:Frame)(cs:List Frame)(d:Option Dying)(v:Value)(w:World):w.drawn<=(gW (doReturn p main fr cs d v w)).drawn:=by
 unfold doReturn
 repeat' split
 all_goals exact ah _
theorem tQ{c:Prop}[Decidable c]{a b:GStep}{n:Nat}(h1:n<=(gW a).drawn)(h2:n<=(gW b).drawn):n<=(gW (if c then a else b)).drawn:=by grind
theorem xL(p:Program)(fr:Frame)(cs:List Frame)(dy:Option Dying)(d:Deferred)(w:World):w.drawn<=(gW (callDeferred p fr cs dy d w)).drawn:=by
 unfold callDeferred;refine tQ ?_ ?_
 ·exact ah _
 ·simp only[];rw[lL];split;all_goals (rename_i e;have h:=cC ((Sem.runT_fst ..).symm.trans e))
  all_goals first|exact h|exact bO h (xe ..)|((repeat' split)<;>exact h)
theorem MJ(p:Program)(main:Bool)(fr:Frame)(cs:List Frame)(dy:Option Dying)(w:World):w.drawn<=(gW (unwind p main fr cs dy w)).drawn:=by
 unfold unwind;split
 ·simp only[];rw[lL];split;all_goals (rename_i e;exact cC ((Sem.runT_fst ..).symm.trans e))
 ·grind[xL]
 ·split
  ·exact ah _
  ·split
   ·exact ah _
   ·split
    ·exact ah _
    ·split
     ·split
      ·exact ah _
      ·split;all_goals (rename_i e;exact cC e)
     ·split
      ·grind[rW]
      ·exact ah _
  ·split
   ·grind[rV]
   ·simp only[];rw[lL];split;all_goals (rename_i e;have h:=cC ((Sem.runT_fst ..).symm.trans e))
    all_goals first|exact h|exact bO h (rV ..)
theorem Rh(p:Program)(fr:Frame)(cs:List Frame)(dy:Option Dying)(g:Nat)(w:World):w.drawn<=(gW (early p fr cs dy g w)).drawn:=by
 unfold early;simp only[]
 repeat' split
 all_goals first|exact ah _|(rename_i e;exact cC e)|(rename_i e _;exact cC e)|(rename_i e _ _;exact cC e)|(rename_i e _ _ _ _;exact cC e)
theorem vV(p:Program)(listen:Bool)(fr:Frame)(cs:List Frame)(dy:Option Dying)(s:Sem Next)(w:World):w.drawn<=(gW (stepG.apply p listen fr cs dy s w)).drawn:=by
 unfold stepG.apply;simp only[];rw[lL];have h0:w.drawn<=(Tx (if listen=true then Sem.runT p s w #[]else(Sem.run p s w,#[])).fst).drawn:=by
  cases listen
  ·grind[Px]
  ·exact cC (Sem.runT_fst ..).symm
 generalize (if listen=true then Sem.runT p s w #[]else(Sem.run p s w,#[])).fst=r at h0 ⊢;split;all_goals first|exact h0|exact bO h0 (xe ..)|exact bO h0 (Rh ..)|exact bO h0 (xd ..)|skip
 all_goals repeat' split
 all_goals first|exact h0|exact bO h0 (xd ..)|skip
theorem To(p:Program)(listen:Bool)(fr:Frame)(cs:List Frame)(dy:Option Dying)(w:World):w.drawn<=(gW (stepG.oper p listen fr cs dy w)).drawn:=by
 unfold stepG.oper;split
 ·exact ah _
 ·split;all_goals exact vV ..
theorem UC(p:Program)(main listen:Bool)(fr:Frame)(cs:List Frame)(dy:Option Dying)(w:World):w.drawn<=(gW (stepG.exec p main listen fr cs dy w)).drawn:=by
 have lv:∀(l:Nat)(jump:Option Code),w.drawn<=(gW (GStep.after (seen p fr.fn ((Instr.endRound l jump).runT p w #[]).snd) (match((Instr.endRound l jump).runT p w #[]).fst with| .ok v w=>doReturn p main fr cs dy v w| .halt _ w=>.ended (.stuck "range over a function: no such loop" (fr.pos p)) w))).drawn :=by
  intro l jump;rw[lL];have h0:=cC (Sem.runT_fst p (Instr.endRound l jump) w #[]).symm;split;all_goals (rename_i e;rw[e]at h0)
  ·exact bO h0 (rV ..)
  ·exact h0
 unfold stepG.exec;simp only[];split;all_goals first|exact ah _|exact vV .. |skip
 ·split
  ·exact tQ (ah _) (ah _)
  grind
 ·split
  ·exact tQ (ah _) (ah _)
  grind
 ·split<;>exact ah _
 ·rename_i id k _;cases exitTo id k with
  |none=>simp only[Option.elim];split;exact tQ (ah _) (ah _);grind
  |some k'=>exact ah _
 ·rename_i id k _;cases gotoIn id k with
  |none=>simp only[Option.elim];split;exact tQ (ah _) (ah _);grind
  |some k'=>exact ah _
 ·rw[lL];split
  ·rename_i e;exact bO (cC ((Sem.runT_fst ..).symm.trans e)) (vV ..)
  ·rename_i e;exact cC ((Sem.runT_fst ..).symm.trans e)
 ·rw[lL];split<;>rename_i e<;>exact cC ((Sem.runT_fst ..).symm.trans e)
 ·rename_i row _ _ _;cases Extern.next row with
  |none=>exact ah _
  |some e=>grind[vV]
 ·refine tQ (ah _) ?_;split<;>rename_i e<;>exact cC e
 ·exact tQ (To ..) (ah _)
theorem O7(p:Program)(main listen:Bool)(g:Goroutine)(w:World):w.drawn<=(gW (stepG p main g w listen)).drawn:=by
 unfold stepG;grind[Xl,UC,MJ]
def sD(n:Nat):Stepped->Prop
 | .next m=>n<=m.world.drawn
 | .ended _ _=>True
theorem sD.trans{n k:Nat}{s:Stepped}(h:n<=k)(g:sD k s):sD n s:=by
 cases s with
 |next m=>exact bO h g
 |ended o w=>trivial
theorem Qc{c:Prop}[Decidable c]{a b:Stepped}{n:Nat}(h1:sD n a)(h2:sD n b):sD n (if c then a else b):=by grind
theorem LZ(p:Program)(gs:Array Goroutine)(rest:Rest)(w:World):sD w.drawn (look p gs rest w):=by
 unfold look;simp only[];split
 ·refine Qc trivial ?_;split
  ·trivial
  ·split<;>rename_i e<;>first|exact cC e|trivial
 ·trivial
theorem xC{rest:Rest}{cases:Array CommCase}{w w':World}(h:waitingAt rest cases w=some w'):w'.drawn=w.drawn:=by
 unfold waitingAt at h
 repeat' split at h
 all_goals first|(cases h;done)|(cases h;rfl)
theorem EU{c:Prop}[Decidable c]{a b:Stepped×Array MemOp}{n:Nat}(h1:sD n a.1)(h2:sD n b.1):sD n (if c then a else b).1:=by grind
theorem AF(p:Program)(rest:Rest)(gs:Array Goroutine)(i:Nat)(g:Goroutine)(cs:Array CommCase)(bl:Bool)(sh:CommShape)(w:World):sD w.drawn (communicate p rest gs i g cs bl sh w).1:=by
 unfold communicate;simp only[];refine EU trivial (EU (EU ?_ (ah _)) ?_)
 ·split
  ·rename_i e;exact we (xC e).symm
  ·trivial
 ·split
  ·trivial
  ·rename_i w1 e;have h:w.drawn<=w1.drawn:=cC e;clear e;split
   ·split
    ·rename_i e;exact bO h (cC e)
    ·trivial
   ·exact h
   ·exact h
   ·split
    ·exact h
    ·split
     ·rename_i e;exact bO h (cC e)
     ·trivial
   ·exact h
   ·exact h
   ·trivial
theorem PU(p:Program)(m:Machine)(k:Nat):sD m.world.drawn (serve p m k):=by
 unfold serve;split
 ·trivial
 ·exact ah _
 ·simp only[];split
  ·trivial
  ·exact ah _
theorem Bj{m m':Machine}{op:TimerOp}{v:Value}(h:timerOp m op=.ok (v,m')):m'.world.drawn=m.world.drawn:=by
 have rt:∀(m:Machine)(k:Nat)(t:Timer)(a b:Nat),(retime m k t a b).2.world.drawn=m.world.drawn:=by
  intro m k t a b;unfold retime drain;grind
 cases op with
 |new t=>
  simp only[timerOp]at h
  repeat' split at h
  all_goals first|(cases h;done)|(cases h;rfl)
 |stop var=>
  simp only[timerOp,timerOp.named]at h;grind
 | reset var a b=>
  simp only[timerOp,timerOp.named,timerOp.opened]at h;split at h
  ·rename_i e;have e2:∀m2:Machine,(if waitedFor m var=true then match Kernel.withPoller m.world.os with| .ok os=>some {m with world:={m.world with os}}| .error _=>none else some m)=some m2->m2.world.drawn=m.world.drawn:=by
    intro m2 e
    repeat' split at e
    all_goals first|(cases e;done)|(cases e;rfl)
   grind
  ·grind
 |deadline a b c d=>simp only[timerOp]at h;cases h;rfl
theorem TY(p:Program)(m:Machine)(i:Nat)(b:Bool):sD m.world.drawn (runT p m i b).1:=by
 unfold runT;simp only[];have h:=O7 p (i==0) b (m.gs.swapAt! i {(default:Goroutine)with status:=.finished}).1 m.world;generalize stepG p (i==0) (m.gs.swapAt! i {(default:Goroutine)with status:=.finished}).1 m.world b=s at h ⊢;cases s
 all_goals simp only[]
 all_goals try exact h
 all_goals try trivial
 ·exact sD.trans h (AF ..)
 ·exact Qc trivial h
 ·split
  ·rename_i e;exact bO h (we (Bj e).symm)
  ·split
   ·rename_i e;cases e;exact h
   ·trivial
  ·trivial
  ·trivial
 ·split
  ·exact h
  ·split
   ·rename_i e;cases e;exact h
   ·trivial
  ·trivial
 ·exact sD.trans h (LZ ..)
def Oa(n:Nat):Move->Prop
 | .goroutine m _=>n<=m.world.drawn
 | .machine s _=>sD n s
theorem Oa.trans{n k:Nat}{s:Move}(h:n<=k)(g:Oa k s):Oa n s:=by
 cases s with
 |goroutine m i=>exact bO h g
 |machine s o=>exact sD.trans h g
theorem A5(p:Program)(m:Machine):Oa m.world.drawn (askOn p m):=by
 have pick:∀(m:Machine)(rs:List Nat),Oa m.world.drawn (match(choose (.sched rs.length)).run p m.world with
   | .halt _ w=>.machine (.ended (.stuck "sched" "") w)
   | .ok k world=>
    if rs.length<=1 then .goroutine {m with world} (rs.getD k 0)else
    match(choose (.extern "sched.slice" 65536)).run p world with
    | .halt _ w=>.machine (.ended (.stuck "sched.slice" "") w)
    | .ok n world=>.goroutine {m with world,rest:={m.rest with slice:=if n=0 then none else some (rs.getD k 0,n)}} (rs.getD k 0)):=by
  intro m rs;split
  ·trivial
  ·rename_i w1 e;have h:m.world.drawn<=w1.drawn:=cC e;split
   ·exact h
   ·split
    ·trivial
    ·rename_i e;exact bO h (cC e)
 unfold askOn;simp only[];split
 ·trivial
 ·rename_i k w1 e;have h:m.world.drawn<=w1.drawn:=cC e;clear e;split
  ·exact sD.trans h (PU p {m with world:=w1} _)
  ·split
   ·split
    ·exact h
    ·split
     ·exact h
     ·split<;>trivial
   ·split
    ·exact Oa.trans h (pick {m with world:=w1} _)
    ·split
     ·trivial
     ·rename_i w2 e;exact Oa.trans (bO h (cC e)) (pick {m with world:=w2} _)
     ·rename_i e;exact bO h (cC e)
     ·rename_i k2 w2 e;exact Oa.trans (bO h (cC e)) (pick (Machine.advanceTo {m with world:=w2} _) _)
theorem LS(p:Program)(m:Machine):Oa m.world.drawn (ask p m):=by
 unfold ask;split
 ·split
  ·trivial
  ·rename_i w1 e;have h:m.world.drawn<=w1.drawn:=cC e;have h2:=LZ p m.gs m.rest w1;split
   ·rename_i e2;rw[e2]at h2;exact Oa.trans (bO h h2) (A5 ..)
   ·exact sD.trans h h2
  ·rename_i w1 _ e;have h:m.world.drawn<=w1.drawn:=cC e;exact Oa.trans h (A5 p {m with world:=w1})
 grind[A5]
theorem TG(p:Program)(m:Machine):Oa m.world.drawn (move p m):=by
 unfold move;split
 ·split
  ·exact ah _
  ·trivial
 ·split
  ·split
   ·exact ah _
   ·exact LS p {m with rest:={m.rest with slice:=none}}
  grind[LS]
theorem S8(p:Program)(m:Machine):sD m.world.drawn (step p m):=by
 unfold step stepT;have h:=TG p m;split
 ·rename_i e;rw[e]at h;exact sD.trans h (TY ..)
 ·rename_i e;rw[e]at h;exact h
theorem Kg(p:Program):∀(n:Nat)(m m':Machine),runN p n m=.next m'->m.world.drawn<=m'.world.drawn
 |0,m,m',h=>by cases h;omega
 |n+1,m,m',h=>by
  rw[runN]at h;have h1:=S8 p m;split at h
  ·rename_i e;rw[e]at h1;exact bO h1 (Kg p n _ _ h)
  simp_all
theorem O6{p:Program}{m m':Machine}(h:Steps p m m'):m.world.drawn<=m'.world.drawn:=by
 obtain⟨n,h⟩:=h;exact Kg p n m m' h
theorem HM{p:Program}{f:FuncId}{args:Array Value}{w:World}{R:Ending->World->Prop}(h:Calls p f args w R):Calls p f args w fun e w'=>R e w'/\((∃v,e=.returned v)->w.drawn<=w'.drawn):=by
 intro cs;obtain⟨e,w',fr,h1,h2,h3,h4⟩:=h cs;refine⟨e,w',fr,⟨h1,?_⟩,h2,h3,h4⟩
 rintro⟨v,rfl⟩
 exact O6 (m:=lone _ cs w) (m':=lone fr cs w') h2
end Go.Ev
namespace Go.Ev
open Go Go.RowKit
section
variable{P:Program}{G:eE}{pl:Pl}{M:dA}{h:AHeap}{w w':World}{f:FuncId}{args:List AV}{v:AV}
theorem ca.below(hr:ca pl M h w)(hb:Below w.heap.size w w'):ca pl M h w':=
 ⟨hr.dom,fun id p o h1 h2=>by rw[hb.block _ (hr.blk id p h1)];exact hr.obj id p o h1 h2,fun id p h1=>FK (hr.blk id p h1) hb.size,hr.inj,
  fun b c h1=>by rw[hb.block _ (hr.memLt h1)];exact hr.imm b c h1,hr.sep⟩
theorem cG.below(hb:Below w.heap.size w w')(hd:w.drawn<=w'.drawn):cG h pl M w h pl M w':=⟨nh.refl _,fun _ _ h=>h,fun _ _ h=>h,hb.size,fun b h1 _=>hb.block b h1,fun id p h=>.inl ⟨p,h,rfl⟩,fun _ _ _ h=>h,fun _ _ h _=>h,fun _ _ h=>.inl h,hb.os,hb.tape,hb.output,hd⟩
theorem bX.below(hE:∀vs w,(callFunc f vs).run P w=.ok (.enter f vs) w)
  (hC:∀(pl:Pl)(M:dA)(w:World)(vs:Array Value)(h:AHeap),pA G pl M->ca pl M h w->VRels pl M args vs->∃cv,VRel pl M v cv/\Calls P f vs w fun e w'=>e=.returned cv/\Below w.heap.size w w'):bX P G f args v:=by
 intro h pl M w vs hG hr hv;obtain⟨cv,h1,h2⟩:=hC pl M w vs h hG hr hv;refine .inl ⟨hE _ _,Calls.mono (HM h2) fun e w' ⟨⟨he,hb⟩,hd⟩=>?_⟩;exact⟨cv,v,h,he,⟨rfl,rfl⟩,pl,M,h1,hr.below hb,cG.below hb (hd ⟨_,he⟩),ah _⟩
theorem bX.calls(hGT:jW G)(hE:∀vs w,(callFunc f vs).run P w=.ok (.enter f vs) w)(hp:bX P G f args v)(hG:pA G pl M)(hr:ca pl M h w){vs:Array Value}(hv:VRels (fun _=>none) M args vs):
  Calls P f vs w fun e w'=>(∃cv pl' M',e=.returned cv/\VRel pl' M' v cv)/\Below w.heap.size w w'/\w.drawn<=w'.drawn:=by
 have r0:ca (fun _=>none) M AHeap.none w:=⟨fun _ _ h=>(by grind),fun _ _ _ h _=>(by grind),fun _ _ h=>(by grind),fun _ _ _ _ h _ _=>(by grind),hr.imm,fun _ _ h=>(by grind)⟩
 rcases hp AHeap.none (fun _=>none) M w vs (hG.none hGT) r0 hv with⟨_,h2⟩|⟨cv,w1,v1,h1,e1,_,_⟩
 ·refine Calls.mono h2 fun e w' ⟨cv,v1,h1,he,⟨e1,e2⟩,pl',M',g1,g2,g3,_⟩=>?_
  subst e1;exact⟨⟨cv,pl',M',he,g1⟩,⟨g3.os,g3.tape,g3.out,g3.size,fun b hb=>g3.kept b hb fun id p h=>(by grind)⟩,g3.drawn⟩
 ·grind
end
def Qo(lo hi:Int)(c:UInt8):Bool:=aw (aB (.ofNat c.toNat) lo||aB hi (.ofNat c.toNat))
abbrev km:UInt8->Bool:=Qo 48 57
abbrev XD:UInt8->Bool:=Qo 65 90
def ec(p:UInt8->Bool)(s:bZ):Nat:=(s.takeWhile p).length
section
variable{p:UInt8->Bool}{s:bZ}
theorem Ki:ec p s<=s.length:=(List.takeWhile_prefix p).length_le
theorem Km:∀{s:bZ}{i:Nat},i<ec p s->p (gD s i)=true
 |[],i,h=>by simp_all[ec]
 | c::r,i,h=>by
  cases hc:p c with
  |false=>simp_all[ec]
  |true=>
   cases i with
   |zero=>exact hc
   |succ i=>exact Km (s:=r) (by simp_all[ec])
theorem F2:∀{s:bZ},ec p s<s.length->p (gD s (ec p s))=false
 |[],h=>by simp_all
 | c::r,h=>by
  cases hc:p c with
  |false=>simp[ec,hc,gD]
  |true=>
   have h2:ec p r<r.length:=by simp_all[ec]
   have:=F2 (s:=r) h2;simp_all[ec,gD]
theorem vu:∀{s:bZ},ec p s=s.length↔s.all p=true
 |[]=>by simp[ec]
 |c::r=>by
  have ih:ec p r=r.length↔r.all p=true:=vu;cases hc:p c with
  |false=>simp[ec,hc]
  |true=>simp_all[ec]
end
theorem W7{lo hi:Int}{c:UInt8}(h1:aB hi (.ofNat c.toNat)=true):Qo lo hi c=false:=by grind[Qo]
def ky(s:bZ):Bool:=aw (aB (.ofNat (s.take (ec km s)).length) 1)&&(aw (aB 4 (.ofNat (s.take (ec km s)).length))&&(aw (ae (.ofNat (gD (s.take (ec km s)) 0).toNat) 48)&&(aw (aB 3 (.ofNat (s.drop (ec km s)).length))&&(s.drop (ec km s)).all XD)))
def sJ(s:bZ):Bool:=aw (aB (.ofNat s.length) 1)&&(aw (aB 24 (.ofNat s.length))&&s.all (Qo 33 126))
def qi(l:List bZ):Bool:=aw (aB 256 (.ofNat l.length))&&l.all sJ
theorem EJ:({data:=#[]}:ByteArray).data.toList=([]:List UInt8):=rfl
theorem Rf(s:bZ):aB (.ofNat s.length) 1=eV s []:=by cases s<;>rfl
def cM{α:Type}(p:α->Bool):List α->Nat->Int
 |[],_=> -1
 |x::r,i=>bif p x then Int.ofNat i else cM p r (i+1)
theorem kc{α:Type}(p:α->Bool):∀(l:List α)(i:Nat),aB (cM p l i) 0=aw (l.any p)
 |[],_=>rfl
 |x::r,i=>by
  unfold cM;rw[List.any_cons];cases h:p x with
  |true=>rfl
  |false=>simp_all[kc]
section
variable{α:Type}{p:α->Bool}{l x r:List α}{w:α}{j:Nat}
theorem oE(h1:l.drop j=x)(h2:x=w::r):l.length-(w::r).length=j/\l.length-r.length=j+1:=by grind
theorem lh(h1:l.drop j=x)(h2:x=w::r)(h3:cM p l 0=cM p (w::r) (l.length-(w::r).length))(h4:p w=true):cM p l 0=Int.ofNat j:=by rw[h3,(oE h1 h2).1,cM,h4];rfl
theorem jp(h1:l.drop j=x)(h2:x=w::r)(h3:cM p l 0=cM p (w::r) (l.length-(w::r).length))(h4:p w=false):cM p l 0=cM p r (l.length-r.length):=by rw[h3,(oE h1 h2).1,(oE h1 h2).2,cM,h4];rfl
theorem Nr:cM p l 0=cM p l (l.length-l.length):=by simp_all
end
def na(s:PStep):Bool:=ae s.kind 0&&eV s.label []
def tH(s:PStep):Bool:=aB 0 s.kind&&(aw (aB 7 s.kind)&&ky s.label)
def OK:List PStep->Bool
 |[]=>true
 |s::r=>(na s||tH s)&&r.all tH
def ku(p:List PStep):Bool:=OK p&&aw (aB 9 (.ofNat p.length))
def H7(p r:List PStep):Bool:=bif Nat.beq r.length p.length then OK r else r.all tH
theorem OJ{p:List PStep}:OK p=H7 p p:=by simp_all[H7]
theorem Va{p:List PStep}:H7 p []=true:=by unfold H7;cases Nat.beq ([]:List PStep).length p.length<;>rfl
theorem EM{p x r:List PStep}{w:PStep}{j:Nat}(h1:p.drop j=x)(h2:x=w::r)(h3:OK p=H7 p (w::r)):OK p=((bif ae (Int.ofNat j) 0 then(na w||tH w)else tH w)&&H7 p r):=by
 obtain⟨e1,e2⟩:=oE h1 h2;have e3:=congrArg List.length (h1.trans h2);simp only[yn,cO]at e1 e2 e3;have f1:Nat.beq r.length p.length=false:=by cases h:Nat.beq r.length p.length with|false=>rfl|true=>grind[Nat.eq_of_beq_eq_true]
 rw[h3];unfold H7;rw[f1];cases j with
 |zero=>
  have f2:Nat.beq (w::r).length p.length=true:=by simp_all
  rw[f2];rfl
 |succ j=>
  have f2:Nat.beq (w::r).length p.length=false:=by cases h:Nat.beq (w::r).length p.length with|false=>rfl|true=>simp_all
  rw[f2];rfl
def cT:Int->bZ
 |0=>[98,111,111,107]
 |1=>[112,97,114,116]
 |2=>[115,101,99,116,105,111,110]
 |3=>[112,97,114,97,103,114,97,112,104]
 |4=>[116,97,98,108,101]
 |5=>[114,111,119]
 |6=>[99,101,108,108]
 |7=>[110,111,116,101]
 |_=>[]
def Ic:Int->List Int
 |0=>[1,2]
 |1=>[2]
 |2=>[3,4,7]
 |3=>[3,4,7]
 |4=>[5]
 |5=>[6]
 |_=>[]
def jc(p k:Int):Bool:=(Ic p).any (ae k)
theorem JW{k:Int}(h:k<0\/7<k):cT k=[]:=by
 unfold cT;grind
theorem Ib{k:Int}(h:k<0\/7<k):Ic k=[]:=by
 unfold Ic;grind
end Go.Ev
namespace Go.Ev
open Go Go.RowKit Go.Proofs
structure ClassOf(p:UInt8->Bool)(q:Nat->Bool):Prop where
 low:∀c:UInt8,c.toNat<128->q c.toNat=aw (p c)
 high:∀n,128<=n->q n=true
 none:∀c:UInt8,128<=c.toNat->p c=false
theorem Uo{s:bZ}{i:Nat}(h:i<s.length)(h2:i<ByteArray.size ⟨⟨s⟩⟩):(ByteArray.mk ⟨s⟩)[i]'h2=gD s i:=by
 simp[gD,List.getD,mU h];rfl
theorem uB{p:UInt8->Bool}{q:Nat->Bool}(hc:ClassOf p q)(s:bZ):∀(f pos:Nat),pos<=ec p s->s.length<=pos+f->Lib.idxFuncFrom q true ⟨⟨s⟩⟩ f pos=(bif Nat.beq (ec p s) s.length then -1 else Int.ofNat (ec p s))
 | f,pos,h1,h2=>by
  have hl:=Ki (p:=p) (s:=s);have hsz:ByteArray.size ⟨⟨s⟩⟩=s.length:=rfl;by_cases he:pos<s.length
  ·cases f with
   |zero=>omega
   | succ f=>
    unfold Lib.idxFuncFrom;rw[hsz,if_pos he];have hb:=Uo he (by rw[hsz];exact he);by_cases hr:pos<ec p s
    ·have hp:=Km hr;have ha:(gD s pos).toNat<128:=by
      rcases eA (gD s pos).toNat 128 with h|h
      ·exact h
      ·rw[hc.none _ h]at hp;cases hp
     rw[decode_ascii _ pos (by rw[hsz];exact he) (by rw[hb];exact ha),hb];rw[if_neg (by rw[hc.low _ ha,hp];decide)];exact uB hc s f (pos+1) hr (by omega)
    ·have e:ec p s=pos:=by omega
     have hp:=F2 (p:=p) (s:=s) (by omega);rw[e]at hp;have hq:q (Utf8.decode ⟨⟨s⟩⟩ pos).1=true:=by
      rcases eA (gD s pos).toNat 128 with h|h
      ·rw[decode_ascii _ pos (by rw[hsz];exact he) (by rw[hb];exact h),hb,hc.low _ h,hp];rfl
      ·exact hc.high _ (decode_high _ pos (by rw[hsz];exact he) (by rw[hb];exact h)).1
     rw[if_pos hq,e];have f1:Nat.beq pos s.length=false:=by cases h:Nat.beq pos s.length with|false=>rfl|true=>have:=pB h;omega
     rw[f1];rfl
  ·have e:ec p s=s.length:=by omega
   rw[Lib.idxFuncFrom_end _ _ _ _ _ (by rw[hsz];exact he),e,qZ];rfl
theorem xV{p:UInt8->Bool}{q:Nat->Bool}(hc:ClassOf p q)(s:bZ):Lib.idxFunc q true ⟨⟨s⟩⟩=(bif Nat.beq (ec p s) s.length then -1 else Int.ofNat (ec p s)):=uB hc s _ 0 (bD _) (by show s.length<=0+s.length;omega)
section
variable{P:Program}{G:eE}{f g:FuncId}
theorem Cb{pl:Pl}{M:dA}{w:World}{h:AHeap}(hGT:jW G)(hg2:∀args w,(callFunc g args).run P w=.ok (.enter g args) w){q:Nat->Bool}{qI:Int->Bool}(hp:∀r:Int,bX P G g [.int .i32 r] (.bool (qI r)))(hq:∀n:Nat,qI (.ofNat n)=q n)
  (hG:pA G pl M)(hr:ca pl M h w):PredGrows P g #[] q w:=by
 intro W x _ hb;refine Calls.mono (bX.calls hGT hg2 (hp (.ofNat x)) hG (hr.below hb) (vs:=#[.int .i32 (.ofNat x)]) ⟨rfl,fun j y hj=>?_⟩) fun e w' ⟨⟨cv,pl',M',he,hv⟩,hb',_⟩=>?_
 ·cases j with
  |zero=>simp at hj;subst hj;exact .int _ _
  |succ j=>simp_all
 grind[cases VRel]
theorem AU(hGT:jW G)(hE:∀vs w,(callFunc f vs).run P w=.ok (.enter f vs) w)(hg2:∀args w,(callFunc g args).run P w=.ok (.enter g args) w){q:Nat->Bool}{qI:Int->Bool}
  (hC:∀(s:ByteArray)(w:World),PredGrows P g #[] q w->Calls P f #[.string s,.func (.func g) #[] #[]] w fun e w'=>e=.returned (.int .i64 (Lib.idxFunc q true s))/\Below w.heap.size w w')
  (hp:∀r:Int,bX P G g [.int .i32 r] (.bool (qI r)))(hq:∀n:Nat,qI (.ofNat n)=q n){p:UInt8->Bool}(hc:ClassOf p q)(s:bZ):
  bX P G f [.str s,.func (.func g) [] []] (.int .i64 (bif Nat.beq (ec p s) s.length then -1 else Int.ofNat (ec p s))):=by
 refine bX.below hE fun pl M w vs h hG hr hv=>?_
 obtain⟨a,b,rfl,hv1,hv2⟩:=A8 hv;have e2:=zx hv2;subst e2;cases hv1
 rw[<-xV hc s];exact⟨_,.int _ _,hC ⟨⟨s⟩⟩ w (Cb hGT hg2 hp hq hG hr)⟩
theorem u9(hGT:jW G)(hE:∀vs w,(callFunc f vs).run P w=.ok (.enter f vs) w)(hg2:∀args w,(callFunc g args).run P w=.ok (.enter g args) w){q:Nat->Bool}{qI:Int->Bool}
  (hC:∀(s:ByteArray)(w:World),PredGrows P g #[] q w->Calls P f #[.string s,.func (.func g) #[] #[]] w fun e w'=>e=.returned (.bool (decide (0<=Lib.idxFunc q true s)))/\Below w.heap.size w w')
  (hp:∀r:Int,bX P G g [.int .i32 r] (.bool (qI r)))(hq:∀n:Nat,qI (.ofNat n)=q n){p:UInt8->Bool}(hc:ClassOf p q)(s:bZ):
  bX P G f [.str s,.func (.func g) [] []] (.bool (aw (s.all p))):=by
 refine bX.below hE fun pl M w vs h hG hr hv=>?_
 obtain⟨a,b,rfl,hv1,hv2⟩:=A8 hv;have e2:=zx hv2;subst e2;cases hv1
 have e:aw (s.all p)=decide (0<=Lib.idxFunc q true ⟨⟨s⟩⟩):=by
  rw[xV hc s];cases ha:s.all p with
  |true=>rw[(vu (p:=p)).2 ha,qZ];rfl
  | false=>
   have:Nat.beq (ec p s) s.length=false:=by
    cases hb:Nat.beq (ec p s) s.length with
    |false=>rfl
    |true=>grind[vu,Nat.eq_of_beq_eq_true]
   simp_all
 rw[e];exact⟨_,.bool _,hC ⟨⟨s⟩⟩ w (Cb hGT hg2 hp hq hG hr)⟩
end
theorem HF{lo hi:Nat}(h:hi<128):ClassOf (Qo (Int.ofNat lo) (Int.ofNat hi)) fun n=>aB (Int.ofNat n) (Int.ofNat lo)||aB (Int.ofNat hi) (Int.ofNat n) where
 low c _:=by unfold Qo;simp_all
 high n hn:=by rw[show aB (Int.ofNat hi) (Int.ofNat n)=true from nG (by grind)];simp_all
 none c hn:=W7 (nG (by grind))
end Go.Ev
namespace Go.Ev
open Go Go.RowKit
section
variable{P:Program}{G:eE}{f:FuncId}
theorem Ig{pl:Pl}{M:dA}{w:World}{h:AHeap}(hr:ca pl M h w){l:List bZ}{a:Addr}{n cap:Nat}(hv:VRel pl M (.ps (l.map nK) false) (.slice (some a) n cap))(hne:l≠[]):
  n=l.length/\n<=cap/\a=⟨a.block,a.off,none⟩/\a.block<w.heap.size/\∀(j:Nat)(x:ByteArray),(l.map fun s=>(⟨⟨s⟩⟩:ByteArray))[j]?=some x->w.cell? ⟨a.block,a.off+j,none⟩=some (.string x):=by
 cases hv with
 | ps hl ht hm hs hc=>
  rename_i sz c;have hne':l.map nK≠[]:=by simp_all
  obtain⟨m1,m2,m3,m4⟩:=hm hne';obtain⟨t,fr,hb⟩:=hr.imm _ _ m2;have hsz:sz=1:=by
   cases l with
   |nil=>simp_all
   |cons s r=>exact((hs (nK s) (by simp)).1).symm
  subst hsz;refine⟨by simp,hl,by rw[<-m1],hr.memLt m2,fun j x hj=>?_⟩;rw[qK]at hj;obtain⟨s,e1,rfl⟩:=FW.1 hj;have hlt:j<l.length:=(fE.1 e1).1;have q:=hc j (nK s) 0 (.str s) (by simp_all) rfl;rw[Nat.mul_one,pC]at q;have hin:a.off+j<c.size:=by grind
  have e2:c[a.off+j]?=some (c.getD (a.off+j) undef):=by simp_all
  simp only[World.cell?,hb];simp only[Option.isSome_none,gh,if_false];rw[e2];cases hq:c.getD (a.off+j) undef<;>rw[hq]at q<;>cases q
  rfl
theorem Nh(hE:∀vs w,(callFunc f vs).run P w=.ok (.enter f vs) w)
  (hC:∀(bk o c:Nat)(xs:List ByteArray)(sep:ByteArray)(w:World),(∀(j:Nat) x,xs[j]?=some x->w.cell? ⟨bk,o+j,none⟩=some (.string x))->bk<w.heap.size->xs.length<=140737488355328->xs.length<=c->
   (Lib.join (xs.map (·.data.toList)) sep.data.toList).length<=140737488355328->
   Calls P f #[.slice (some ⟨bk,o,none⟩) xs.length c,.string sep] w fun e w'=>e=.returned (.string ⟨(Lib.join (xs.map (·.data.toList)) sep.data.toList).toArray⟩)/\Below w.heap.size w w')
  (hN:∀(a:Option Addr)(c:Nat)(sep:ByteArray)(w:World),Calls P f #[.slice a 0 c,.string sep] w fun e w'=>e=.returned (.string ⟨#[]⟩)/\w'=w)
  (l:List bZ)(sep:bZ)(h1:l.length<=140737488355328)(h2:(Lib.join l sep).length<=140737488355328):bX P G f [.ls (l.map nK),.str sep] (.str (Lib.join l sep)):=by
 refine bX.below hE fun pl M w vs h hG hr hv=>?_
 obtain⟨a,b,rfl,hv1,hv2⟩:=A8 hv;cases hv2
 have nil (p:Option Addr) (cap:Nat) (hl:l=[]):∃cv,VRel pl M (.str (Lib.join l sep)) cv/\Calls P f #[.slice p 0 cap,.string ⟨⟨sep⟩⟩] w fun e w'=>e=.returned cv/\Below w.heap.size w w':=by
  subst hl;exact⟨.string ⟨⟨[]⟩⟩,.str _,Calls.mono (hN p cap ⟨⟨sep⟩⟩ w) fun e w' ⟨he,hw⟩=>⟨he,hw▸Below.refl _ _⟩⟩
 generalize hx:l.map nK=xs at hv1;cases hv1 with
 |lsn=>simp_all
 | lsp hp ht=>
  subst hx;by_cases hl:l=[]
  ·subst hl;cases hp with
   |ps=>simp_all
  ·have hp':=hp;cases hp with
   |ps=>
    rename_i a cap sz c _ _ _ _ _;obtain⟨e1,e2,e3,e4,e5⟩:=Ig hr hp' hl;have e6:(l.map fun s=>(⟨⟨s⟩⟩:ByteArray)).map (·.data.toList)=l:=by rw[List.map_map];exact List.map_id l
    have:=hC a.block a.off cap (l.map fun s=>⟨⟨s⟩⟩) ⟨⟨sep⟩⟩ w e5 e4 (by grind) (by grind) (by grind);rw[e6,<-e3,cQ,<-e1]at this;exact⟨.string ⟨⟨Lib.join l sep⟩⟩,.str _,this⟩
theorem F4(hE:∀vs w,(callFunc f vs).run P w=.ok (.enter f vs) w)
  (hC:∀(s:ByteArray)(c:Nat)(w:World),c<=9223372036854775807->s.size*c<=140737488355328->Calls P f #[.string s,.int .i64 c] w fun e w'=>e=.returned (.string ⟨(Lib.repeatL s.data.toList c).toArray⟩)/\Below w.heap.size w w')
  (s:bZ)(c:Nat)(h1:c<=9223372036854775807)(h2:s.length*c<=140737488355328):bX P G f [.str s,.int .i64 (.ofNat c)] (.str (Lib.repeatL s c)):=by
 refine bX.below hE fun pl M w vs h hG hr hv=>?_
 obtain⟨a,b,rfl,hv1,hv2⟩:=A8 hv;cases hv1;cases hv2
 exact⟨.string ⟨⟨Lib.repeatL s c⟩⟩,.str _,hC ⟨⟨s⟩⟩ c w h1 h2⟩
theorem MK(hE:∀vs w,(callFunc f vs).run P w=.ok (.enter f vs) w)
  (hC:∀(s cs:ByteArray)(w:World),s.size<=9223372036854775807->cs.size<4294967281->(∀(j:Nat) b,cs.data.toList[j]?=some b->b.toNat<128)->
   Calls P f #[.string s,.string cs] w fun e w'=>e=.returned (.string ⟨(Lib.trimS s.data.toList cs.data.toList).toArray⟩)/\Below w.heap.size w w')
  (s cs:bZ)(h1:s.length<=9223372036854775807)(h2:cs.length<4294967281)(h3:∀b,b∈cs->b.toNat<128):bX P G f [.str s,.str cs] (.str (Lib.trimS s cs)):=by
 refine bX.below hE fun pl M w vs h hG hr hv=>?_
 obtain⟨a,b,rfl,hv1,hv2⟩:=A8 hv;cases hv1;cases hv2
 exact⟨.string ⟨⟨Lib.trimS s cs⟩⟩,.str _,hC ⟨⟨s⟩⟩ ⟨⟨cs⟩⟩ w h1 h2 fun j b hj=>h3 b (bm hj)⟩
end
structure PId where
 a:Int
 i:Int
 n:Int
 deriving Inhabited,DecidableEq
noncomputable def aJ(p:PId):AV:=.agg [.int .i64 p.a,.int .i64 p.i,.int .i64 p.n]
theorem Jl(p:PId):(aJ p).top=0:=rfl
def bw(u:TUnit):PId:=⟨u.act,u.item,u.n⟩
def bK(p q:PId):Bool:=ae p.a q.a&&(ae p.i q.i&&ae p.n q.n)
theorem uG{p q:PId}(h:bK p q=true):p=q:=by
 unfold bK at h;rw[bj,bj]at h;obtain⟨a,b,c⟩:=p;obtain⟨d,e,g⟩:=q;grind[iR]
theorem lz(p:PId):bK p p=true:=by simp[bK,bg]
abbrev f9(p:PId)(u:TUnit):Bool:=bK (bw u) p
theorem fG:KeyOf PId true 3 [(0,1),(1,1),(2,1)] aJ bK where
 eq a b:=by
  show vw [.int .i64 a.a,.int .i64 a.i,.int .i64 a.n] [.int .i64 b.a,.int .i64 b.i,.int .i64 b.n] [(0,1),(1,1),(2,1)]=_
  simp only[vw,je,Rv,Ha,kN,bK];cases h1:ae a.a b.a<;>cases h2:ae a.i b.i<;>cases h3:ae a.n b.n<;>rfl
 t a b h:=uG h
 refl a:=lz a
 same a:=by simp[aJ,lg,jA,jS,kN,bg]
 top a:=rfl
mutual
def nU:TUnit->Nat
 |⟨_,_,_,_,_,_,_,ks⟩=>1+eJ ks
def eJ:List TUnit->Nat
 |[]=>0
 |k::r=>nU k+eJ r
end
mutual
def nY:TUnit->Nat
 |⟨_,_,_,_,_,_,_,ks⟩=>kO ks
def kO:List TUnit->Nat
 |[]=>0
 |k::r=>Nat.max (1+nY k) (kO r)
end
mutual
def bB:TUnit->List TUnit
 |⟨x1,x2,x3,x4,x5,x6,x7,ks⟩=>⟨x1,x2,x3,x4,x5,x6,x7,ks⟩::dB ks
def dB:List TUnit->List TUnit
 |[]=>[]
 |k::r=>bB k++dB r
end
mutual
def aF(p:PId):TUnit->List TUnit
 |⟨x1,x2,x3,x4,x5,x6,x7,ks⟩=>bif f9 p ⟨x1,x2,x3,x4,x5,x6,x7,ks⟩then[⟨x1,x2,x3,x4,x5,x6,x7,ks⟩]else match cw p ks with
  |[]=>[]
  |y::t=>⟨x1,x2,x3,x4,x5,x6,x7,ks⟩::y::t
def cw(p:PId):List TUnit->List TUnit
 |[]=>[]
 |k::r=>match aF p k with
  |[]=>cw p r
  |y::t=>y::t
end
theorem jk(u:TUnit):nU u=1+eJ u.kids:=by cases u;rw[nU];rfl
theorem mg:eJ []=0:=by rw[eJ]
theorem be(k:TUnit)(r:List TUnit):eJ (k::r)=nU k+eJ r:=by rw[eJ]
theorem LA(u:TUnit):nY u=kO u.kids:=by cases u;rw[nY];rfl
theorem DJ:kO []=0:=by rw[kO]
theorem Jo(k:TUnit)(r:List TUnit):kO (k::r)=Nat.max (1+nY k) (kO r):=by rw[kO]
theorem da(u:TUnit):bB u=u::dB u.kids:=by cases u;rw[bB];rfl
theorem gY:dB []=[]:=by rw[dB]
theorem bP(k:TUnit)(r:List TUnit):dB (k::r)=bB k++dB r:=by rw[dB]
def dx(u:TUnit):List PId:=(bB u).map bw
def iE(l:List TUnit):List PId:=(dB l).map bw
theorem nH(u:TUnit):dx u=bw u::iE u.kids:=by unfold dx iE;rw[da];rfl
theorem rA:iE []=[]:=by unfold iE;rw[gY];rfl
theorem gc(k:TUnit)(r:List TUnit):iE (k::r)=dx k++iE r:=by grind[dx,iE,bP]
theorem D8:∀{l:List TUnit}{k:TUnit},k∈l->nU k<=eJ l
 |x::r,k,h=>by
  rw[be];rcases fk.1 h with rfl|h
  ·omega
  ·have:=D8 h;omega
theorem iL{u k:TUnit}(h:k∈u.kids):nU k<nU u:=by rw[jk u];have:=D8 h;omega
theorem I5(u:TUnit):0<nU u:=by grind[jk]
theorem yx:∀(l:List TUnit),l.length<=eJ l
 |[]=>by simp_all
 |k::r=>by
  rw[be,cO];have:=yx r;grind[I5]
theorem bf(u:TUnit):u.kids.length<nU u:=by grind[jk,yx]
theorem M7{l:List TUnit}(h:∀k,k∈l->(bB k).length=nU k):(dB l).length=eJ l:=by
 induction l with
 |nil=>rw[gY,mg];rfl
 |cons k r ih=>grind[bP,be]
theorem GQ:∀(u:TUnit),(bB u).length=nU u:=TUnit.ind fun u ih=>by grind[da,jk,M7]
theorem uC(u:TUnit):(dx u).length=nU u:=by grind[dx,GQ]
theorem Ro{l:List TUnit}{n:Nat}(h:∀k,k∈l->1+nY k<=n):kO l<=n:=by
 induction l with
 |nil=>grind[DJ]
 |cons k r ih=>grind[Jo]
theorem Em:∀(u:TUnit),nY u<nU u:=TUnit.ind fun u ih=>by
 have:kO u.kids<=eJ u.kids:=Ro fun k hk=>by have:=ih k hk;have:=D8 hk;omega
 grind[LA,jk]
section
variable{p:PId}{u w:TUnit}{r:List TUnit}
theorem gm(u:TUnit):aF p u=bif f9 p u then[u]else match cw p u.kids with|[]=>[]|y::t=>u::y::t:=by cases u;rw[aF];rfl
theorem lQ:cw p []=[]:=by rw[cw]
theorem o3(k:TUnit)(r:List TUnit):cw p (k::r)=match aF p k with|[]=>cw p r|y::t=>y::t:=by rw[cw]
def cK(p:PId)(u:TUnit):Bool:=aw (aF p u).isEmpty
theorem Aj(h:cK p u=false):aF p u=[]:=by grind[cK]
theorem wZ(h:cK p u=true):∃y t,aF p u=y::t:=by
 unfold cK at h;cases e:aF p u with
 |nil=>grind
 |cons x r=>simp_all
theorem ll(h:cK p u=true):aF p u≠[]:=by grind[wZ]
theorem rv(h:f9 p u=true):aF p u=[u]:=by rw[gm,h];rfl
theorem Ew(h:f9 p u=true):cK p u=true:=by unfold cK;rw[rv h];rfl
theorem jJ(h:cK p w=false):cw p (w::r)=cw p r:=by rw[o3,Aj h]
theorem oY(h:cK p w=true):cw p (w::r)=aF p w:=by grind[wZ,o3]
theorem OH(h:f9 p u=false)(h2:cw p u.kids=cw p []):aF p u=[]:=by rw[gm,h,h2,lQ];rfl
theorem G0(h:f9 p u=false)(h2:cw p u.kids=cw p []):cK p u=false:=by unfold cK;rw[OH h h2];rfl
theorem J2(h:f9 p u=false)(h2:cw p u.kids=cw p (w::r))(h3:cK p w=true):aF p u=u::aF p w:=by grind[gm,oY,wZ]
theorem Ug(h:f9 p u=false)(h2:cw p u.kids=cw p (w::r))(h3:cK p w=true):cK p u=true:=by unfold cK;rw[J2 h h2 h3];rfl
end
theorem me{p:PId}:∀(u:TUnit),(aF p u).length<=nU u:=TUnit.ind fun u ih=>by
 rw[gm];cases f9 p u with
 |true=>exact I5 u
 | false=>
  have key:∀(r:List TUnit),(∀k,k∈r->k∈u.kids)->(cw p r).length<=eJ r:=by
   intro r;induction r with
   |nil=>grind[lQ]
   |cons k r ihr=>grind[o3,be]
  grind[jk]
def bd:TUnit:=⟨0,0,0,0,[],[],[],[]⟩
noncomputable def ee(p:PId)(u:TUnit):TUnit:=bif cK p u then gD (aF p u) ((aF p u).length -1)else bd
theorem J4{p:PId}:∀(u:TUnit)(x:TUnit),x∈aF p u->x∈bB u:=TUnit.ind fun u ih=>by
 intro x hx;rw[gm]at hx;rw[da];cases h:f9 p u with
 |true=>simp_all
 | false=>
  rw[h]at hx;simp only[cond_false]at hx;have key:∀(r:List TUnit),(∀k,k∈r->k∈u.kids)->∀x,x∈cw p r->x∈dB r:=by
   intro r;induction r with
   |nil=>grind[lQ]
   |cons k r ihr=>grind[o3,bP]
  grind
noncomputable def pH(p:Int×bZ):AV:=.agg [.int .i64 p.1,.str p.2]
def nX(a b:Int×bZ):Bool:=ae a.1 b.1&&eV a.2 b.2
theorem Al:∀(s:bZ),eV s s=true
 |[]=>rfl
 |c::r=>by simp only[eV,Al r,Bool.and_true];simp_all
theorem Rd:∀{a b:bZ},eV a b=true->a=b
 |[],[],_=>rfl
 |c::r,d::q,h=>by
  simp only[eV,bj]at h;rw[Rd h.2,UInt8.toNat_inj.1 (pB h.1)]
theorem Lx:KeyOf (Int×bZ) true 2 [(0,1),(1,2)] pH nX where
 eq a b:=by
  show vw [.int .i64 a.1,.str a.2] [.int .i64 b.1,.str b.2] [(0,1),(1,2)]=_
  simp only[vw,je,Rv,Ha,kN,nX];cases h1:ae a.1 b.1<;>cases h2:eV a.2 b.2<;>rfl
 t a b h:=by
  simp only[nX,bj]at h;grind[iR,Rd]
 refl a:=by simp[nX,bg,Al]
 same a:=by simp[pH,lg,jA,jS,kN,bg,Al]
 top a:=rfl
noncomputable def dj(b:Bool):AV:=.bool b
theorem Ar(b:Bool):(dj b).top=0:=rfl
def Oc{K:Type}(keq:K->K->Bool)(k:K)(l:List (K×Bool)):Bool:=(j8 keq k l).getD false
section
variable{K:Type}{ag:Bool}{sz:Nat}{lv:List (Nat×Nat)}{kenc:K->AV}{keq:K->K->Bool}
theorem Gg(hk:KeyOf K ag sz lv kenc keq)(m:List (K×Bool))(k:K):eD (some (.bool false)) false (bx ag sz lv (kenc k) (aC kenc dj m 0) 0)=some (.bool (Oc keq k m)):=by
 rw[s7 hk];unfold Oc;cases j8 keq k m with
 |none=>rfl
 |some v=>rfl
theorem J5(hk:KeyOf K ag sz lv kenc keq)(m:List (K×Bool))(k:K):qj (aC kenc dj m 0) m.length (kenc k) (.bool true) (bx ag sz lv (kenc k) (aC kenc dj m 0) 0)=some (aC kenc dj (fp keq k true m) 0,(fp keq k true m).length):=vc (f:=dj) hk k true m
end
def oS(l:List PWord):Bool:=aw (aB 256 (.ofNat l.length))&&qi (l.map fun w=>w.text)
def m8(pk:Int):List TUnit->List ((Int×bZ)×Bool)->Bool
 |[],_=>true
 |k::r,m=>jc pk k.kind&&(aw (Oc nX (k.kind,k.label) m)&&m8 pk r (fp nX (k.kind,k.label) true m))
def ma(u:TUnit):Bool:=(bif ae u.kind 0 then eV u.label []&&aw (aB 0 (.ofNat (u.head.length+u.words.length)))else aw (eV (cT u.kind) [])&&(ky u.label&&(oS u.head&&oS u.words)))&&(m8 u.kind u.kids []&&aw (aB 64 (.ofNat u.kids.length)))
def wy(q:TUnit->Bool)(u:TUnit):Bool:=(bB u).all q
theorem yh(q:TUnit->Bool)(u:TUnit):wy q u=(q u&&(dB u.kids).all q):=by grind[wy,da]
theorem OW(q:TUnit->Bool):(dB []).all q=true:=by rw[gY];rfl
theorem BW(q:TUnit->Bool)(k:TUnit)(r:List TUnit):(dB (k::r)).all q=(wy q k&&(dB r).all q):=by rw[bP,List.all_append];rfl
def Cx(l:List PId)(m:List (PId×Bool)):List (PId×Bool):=l.foldl (fun m p=>fp bK p true m) m
def bN:PId:=⟨0,0,0⟩
def QC(u:TUnit):Bool:=(Oc bK bN (Cx (dx u) [])&&ae (.ofNat (Cx (dx u) []).length) 1)||(ae (.ofNat (Cx (dx u) []).length) (.ofNat (dx u).length)&&(ae u.kind 0==f9 bN u))
def lZ(u:TUnit):Bool:=wy ma u&&(aw (aB 8 (.ofNat (nY u)))&&(aw (aB 1024 (.ofNat (nU u)))&&QC u))
theorem bM{u k:TUnit}(h:k∈u.kids){x:TUnit}(hx:x∈bB k):x∈bB u:=by
 rw[da];refine fQ _ ?_;generalize u.kids=l at h;induction l with
 |nil=>grind
 |cons y r ih=>grind[bP]
theorem dh(u:TUnit):u∈bB u:=by grind[da]
theorem Lz{u k:TUnit}(h:k∈u.kids):k∈bB u:=bM h (dh k)
end Go.Ev
namespace Go.Ev
open Go
def dY{α:Type}(q:α->α->Bool):List α->List α->Bool
 |[],[]=>true
 |x::l,y::m=>q x y&&dY q l m
 |_,_=>false
theorem oB{α:Type}{q:α->α->Bool}:∀{l m:List α},l.length≠m.length->dY q l m=false
 |[],[],h=>absurd rfl h
 |[],y::m,_=>rfl
 |x::l,[],_=>rfl
 |x::l,y::m,h=>by
  unfold dY;rw[oB (l:=l) (m:=m) (fun e=>h (by simp[e]))];exact yu _
section
variable{α:Type}[Inhabited α]{q:α->α->Bool}{l m x r:List α}{w:α}{j:Nat}
theorem ye{m:List α}{j:Nat}(h:j<m.length):m.drop j=gD m j::m.drop (j+1):=by grind[List.drop_eq_getElem_cons,gD]
theorem lm(h1:l.drop j=x)(h2:x=w::r)(hl:l.length=m.length)(h3:dY q l m=dY q (w::r) (m.drop (l.length-(w::r).length))):dY q l m=(q w (gD m j)&&dY q r (m.drop (l.length-r.length))):=by
 have e:=congrArg List.length (h1.trans h2);simp only[yn,cO]at e;rw[h3,(oE h1 h2).1,(oE h1 h2).2,ye (by omega),dY]
omit [Inhabited α]in
theorem rZ(hl:l.length=m.length)(h3:dY q l m=dY q [] (m.drop (l.length-([]:List α).length))):dY q l m=true:=by rw[h3,gP,Nat.sub_zero,hl,List.drop_length];rfl
end
def Oe(a b:PWord):Bool:=eV a.text b.text&&(ae a.act b.act&&(ae a.item b.item&&ae a.at_ b.at_))
mutual
def NL:TUnit->TUnit->Bool
 |⟨a,i,n,k,l,h,w,ks⟩,v=>bK ⟨a,i,n⟩ (bw v)&&(ae k v.kind&&(eV l v.label&&(dY Oe h v.head&&(dY Oe w v.words&&NI ks v.kids))))
def NI:List TUnit->List TUnit->Bool
 |[],[]=>true
 |k::r,[]=>false
 |k::r,x::s=>NL k x&&NI r s
 |[],x::s=>false
end
theorem Xb(u v:TUnit):NL u v=(bK (bw u) (bw v)&&(ae u.kind v.kind&&(eV u.label v.label&&(dY Oe u.head v.head&&(dY Oe u.words v.words&&dY NL u.kids v.kids))))):=by
 have key:∀(l m:List TUnit),NI l m=dY NL l m:=by
  intro l;induction l with
  |nil=>intro m;cases m<;>(rw[NI];rfl)
  |cons x l ih=>intro m;cases m with|nil=>rw[NI];rfl|cons y m=>rw[NI,ih];rfl
 cases u
 rw[NL,key];rfl
def IY(u v:AV):Prop:=(Sc v->Sc u)/\Les u.cells v.cells
theorem IY.refl(v:AV):IY v v:=⟨id,Les.refl _⟩
theorem IY.one{u v:AV}(hu:u.cells=[u])(hv:v.cells=[v])(hs:cE u=true)(h:Le u v):IY u v:=⟨fun _ y hy=>by simp_all,by rw[hu,hv];exact .cons h .nil⟩
inductive LesC:List AV->List AV->Prop
 |nil:LesC [] []
 |cons {u v:AV} {us vs:List AV} (h:IY u v) (k:LesC us vs):LesC (u::us) (v::vs)
theorem LesC.len{us vs:List AV}(h:LesC us vs):us.length=vs.length:=by
 induction h with
 |nil=>rfl
 |cons _ _ ih=>simp_all
theorem LesC.at_{us vs:List AV}(h:LesC us vs):∀(j:Nat)(u:AV),us[j]?=some u->∃v,vs[j]?=some v/\IY u v:=by
 induction h with
 |nil=>simp_all
 |cons h k ih=>grind
theorem E1{xs ys:List AV}{t:Bool}(h:LesC xs ys):Le (.ps xs false) (.ps ys t):=fun pl M v hv=>by
 cases hv with
 | @ps _ _ a cap sz c hl ht hm hs hc=>
  rw[<-h.len];refine .ps (sz:=sz) (c:=c) (by rw[h.len];omega) (fun h=>by grind) (fun hx=>?_) (fun x hx=>?_) fun i x j y hx hy=>?_
  ·have:ys≠[]:=fun e=>hx (sX (by rw[h.len,e];rfl))
   rw[h.len];simp_all
  ·obtain⟨i,hi⟩:=BR hx;obtain⟨y,h1,h2,h3⟩:=h.at_ i x hi;have:=hs y (bm h1);exact⟨h3.len.trans this.1,h2 this.2⟩
  ·obtain⟨z,h1,_,h3⟩:=h.at_ i x hx;obtain⟨d,h4,h5⟩:=h3.at_ j y hy;exact h5 _ _ _ (hc i z j d h1 h4)
theorem X0{xs ys:List AV}{t:Bool}(h:LesC xs ys)(h0:aj xs=0):Le (.ls xs) (.ps ys t):=fun pl M v hv=>.lsp (E1 h pl M v hv) h0
theorem X1{xs ys:List AV}(h:LesC xs ys)(h0:aj xs=0):Le (.ls xs) (.ls ys):=fun pl M v hv=>by
 cases hv with
 |lsn=>cases h;exact .lsn
 |lsp hv _=>exact .lsp (E1 h pl M v hv) h0
theorem Le.pls{x:AV}{xs ys:List AV}(h:LesC (x::xs) ys):Le (.ps (x::xs) false) (.ls ys):=fun pl M v hv=>by
 cases hv with
 |lsn=>cases h
 |lsp hv _=>exact E1 h pl M v hv
mutual
def Bz:AV->AV->Bool
 | .ls xs,.nils=>xs.isEmpty
 | .ls xs,.ps ys _=>kE xs ys&&Nat.beq (aj xs) 0
 | .ls xs,.ls ys=>kE xs ys&&Nat.beq (aj xs) 0
 | .ps (x::xs) false,.ls ys=>kE (x::xs) ys
 | .ps xs false,.ps ys _=>kE xs ys
 | .agg us,.agg vs=>kE us vs&&us.all cE
 |u,v=>AV.same u v
def kE:List AV->List AV->Bool
 |[],[]=>true
 |a::us,b::vs=>Bz a b&&kE us vs
 |_,_=>false
end
theorem IY.same{u v:AV}(h:AV.same u v=true):Le u v/\IY u v:=by grind[AV.same_eq,Le.refl,IY.refl]
mutual
theorem wb:∀(u v:AV),Bz u v=true->Le u v/\IY u v:=fun u v h=>by
 unfold Bz at h;split at h
 ·rename_i xs;have e:xs=[]:=by simp_all
  subst e;exact⟨Le.nils,IY.one rfl rfl rfl Le.nils⟩
 ·rename_i xs ys t;have h:=ni.1 h;have k:=X0 (t:=t) (jI xs ys h.1).2 (pB h.2);exact⟨k,IY.one rfl rfl rfl k⟩
 ·rename_i xs ys;have h:=ni.1 h;have k:=X1 (jI xs ys h.1).2 (pB h.2);exact⟨k,IY.one rfl rfl rfl k⟩
 ·rename_i x xs ys;have k:=Le.pls (jI (x::xs) ys h).2;exact⟨k,IY.one rfl rfl rfl k⟩
 ·rename_i xs ys t;have k:=E1 (t:=t) (jI xs ys h).2;exact⟨k,IY.one rfl rfl rfl k⟩
 ·rename_i us vs;have h:=ni.1 h;have k:=jI us vs h.1;exact⟨aO k.1 h.2,fun _ y hy=>kI.1 h.2 y hy,k.1⟩
 ·exact IY.same h
theorem jI:∀(us vs:List AV),kE us vs=true->Les us vs/\LesC us vs:=fun us vs h=>by
 unfold kE at h;split at h
 ·exact⟨.nil,.nil⟩
 ·rename_i a us b vs;have h:=ni.1 h;have h1:=wb a b h.1;have h2:=jI us vs h.2;exact⟨.cons h1.1 h2.1,.cons h1.2 h2.2⟩
 ·grind
end
section
variable{P:Program}{G:eE}{f:FuncId}{a b:List AV}{u v:AV}
theorem bX.args(h:bX P G f a v)(hl:Les a b):bX P G f b v:=fun hp pl M w vs hg hr hv=>h hp pl M w vs hg hr (hv.le hl)
theorem bX.lessB(h:bX P G f a v)(hl:Bz u v=true):bX P G f a u:=h.less (wb _ _ hl).1
theorem Wn(a b:Nat):Cu (.ofNat a) (.ofNat b)=.ofNat (Nat.max a b):=by
 unfold Cu;cases h:aB (.ofNat a) (.ofNat b)with
 |true=>
  have h:=aA h;grind
 |false=>
  have h:=aE h;simp_all
theorem Ra{xs ys:List AV}{i t:Nat}{r:List (Nat×Nat)}{x y:AV}{c:Bool}(hx:je xs i=some x)(hy:je ys i=some y)(h:Ha t x y=some true)(k:vw xs ys r=some c):vw xs ys ((i,t)::r)=some c:=by grind[vw,Rv,wV]
theorem pG{xs ys:List AV}{i t:Nat}{r:List (Nat×Nat)}{x y:AV}{e c:Bool}(hx:je xs i=some x)(hy:je ys i=some y)(h:Ha t x y=some e)(k:vw xs ys r=some c):vw xs ys ((i,t)::r)=some (e&&c):=by
 simp only[vw,hx,hy,Rv,h];cases e with
 |true=>exact k
 |false=>rfl
theorem C6{xs ys:List AV}{i t:Nat}{r:List (Nat×Nat)}{x y:AV}{e:Bool}(hx:je xs i=some x)(hy:je ys i=some y)(h:Ha t x y=some e)(k:vw xs ys r=some true):vw xs ys ((i,t)::r)=some e:=by
 simp only[vw,hx,hy,Rv,h];cases e with
 |true=>exact k
 |false=>rfl
theorem Rk(a:Int):Ha 1 (.int .i64 a) (.int .i64 a)=some true:=congrArg some (bg a)
theorem EL{d:Option TypeDesc}{n:Nat}{l:List (Nat×Nat)}{xs ys:List AV}{c:Bool}{H:AHeap}(hn:(Nat.beq xs.length n&&Nat.beq ys.length n)=true)(hl:vw xs ys l=some c):
  bv H (SS (pO .eql d (some true) (some n) (some l)) (some (.agg xs)) (some (.agg ys)))=some (.val (.bool c) H):=by
 grind[SS,pO,Xd,pJ,bv]
theorem yi{d:Option TypeDesc}{n:Nat}{l:List (Nat×Nat)}{xs ys:List AV}{c:Bool}{H:AHeap}(hn:(Nat.beq xs.length n&&Nat.beq ys.length n)=true)(hl:vw xs ys l=some c):
  bv H (SS (pO .neq d (some true) (some n) (some l)) (some (.agg xs)) (some (.agg ys)))=some (.val (.bool (!c)) H):=by
 grind[SS,pO,Xd,pJ,bv]
def xY:List (FuncId×List AV×AV)->ZF
 |[],_,_,_=>none
 |x::r,g,b,h=>match Nat.beq g x.1 with
  |true=>(match kE x.2.1 b with|true=>some (x.2.2,h)|false=>xY r g b h)
  |false=>xY r g b h
theorem Aq:∀{L:List (FuncId×List AV×AV)}{g:FuncId}{h h1:AHeap}{v1:AV},xY L g b h=some (v1,h1)->∃x,x∈L/\g=x.1/\kE x.2.1 b=true/\v1=x.2.2/\h1=h
 |[],_,_,_,_,e=>by grind[xY]
 | x::r,g,h,h1,v1,e=>by
  unfold xY at e;have next:xY r g b h=some (v1,h1)->∃y,y∈x::r/\g=y.1/\kE y.2.1 b=true/\v1=y.2.2/\h1=h:=fun e=>
   let⟨y,k,q⟩:=Aq e
   ⟨y,fQ _ k,q⟩
  grind[Nat.eq_of_beq_eq_true]
theorem QE{C:Cfg}{L:List (FuncId×List AV×AV)}(hC:C.hook=xY L)(hL:∀x,x∈L->bX C.P C.G x.1 x.2.1 x.2.2):JL C:=fun g b hp v1 h1 e pl M w vs hg hr hv=>by
 rw[hC]at e;obtain⟨x,hx,rfl,hl,rfl,rfl⟩:=Aq e;rcases hL x hx h1 pl M w vs hg hr (hv.le (jI _ _ hl).1)with⟨k1,k2⟩|⟨cv,w',v2,h2,k1,⟨rfl,rfl⟩,k3⟩
 ·refine .inl ⟨k1,fun cs=>?_⟩;obtain⟨en,w',fr,⟨cv,v2,h2,e1,⟨rfl,rfl⟩,k3⟩,r⟩:=k2 cs;grind
 ·exact .inr ⟨cv,w',k1,k3⟩
def Yk(v:AV):Option (AV×AHeap)->Bool
 |some (u,_)=>Bz v u&&Nat.beq u.top 0
 |none=>false
theorem bX.closed{C:Cfg}{k:Nat}(hG:jW C.G)(ev:cj C.P C.G (iP C k))(ht:aj a=0)(h:Yk v (iP C k f a AHeap.none)=true):bX C.P C.G f a v:=by
 cases hx:iP C k f a AHeap.none with
 |none=>rw[hx]at h;cases h
 |some r=>
  obtain⟨u,h1⟩:=r;rw[hx]at h;have h:=ni.1 h;exact(oM hG ht (pB h.2) ((aH.of ev hx).mono fun v1 _ e=>e.1)).lessB h.1
end
end Go.Ev
namespace Go.Ev
open Go
theorem bX.ls0{P:Program}{G:eE}{f:FuncId}{r:List AV}{v:AV}(h1:bX P G f (.nils::r) v)(h2:bX P G f (.ps [] false::r) v):bX P G f (.ls []::r) v:=fun h=>E4 (fun _ _ _ hv=>VRels.first hv fun _ hv=>hv.ls0) (h1 h) (h2 h)
theorem RW{p:PId}{u:TUnit}(h:cK p u=true):ee p u∈aF p u:=by
 unfold ee;rw[h];have:=qJ.2 (ll h);grind[ig]
theorem Si:∀(u:TUnit),ny u=(bB u).flatMap nr:=by
 refine TUnit.ind fun u ih=>?_
 rw[L3,da,E9];congr 1;have key:∀(l:List TUnit),(∀k,k∈l->k∈u.kids)->kR l=(dB l).flatMap nr:=by
  intro l;induction l with
  |nil=>intro _;rw[Dg,gY];rfl
  |cons k r ihr=>grind[tz,bP]
 simp_all
theorem OI{p:PId}:∀(u:TUnit),cK p u=true->bw (ee p u)=p:=by
 refine TUnit.ind fun u ih h=>?_
 unfold ee;rw[h];simp only[cond_true];cases hh:f9 p u with
 |true=>rw[rv hh];exact uG hh
 | false=>
  have key:∀(r:List TUnit),(∀k,k∈r->k∈u.kids)->cw p r≠[]->bw (gD (cw p r) ((cw p r).length -1))=p:=by
   intro r;induction r with
   |nil=>grind[lQ]
   |cons k r ihr=>grind[oY,ee,jJ]
  have k2:=key u.kids fun _ h=>h
  obtain⟨y,t,e⟩:=wZ h;rw[gm,hh]at e ⊢;grind[gD]
theorem Lf{p:PId}:∀(u:TUnit),(∃x,x∈bB u/\bw x=p)->cK p u=true:=by
 refine TUnit.ind fun u ih ⟨x,hx,hp⟩=>?_
 cases hh:f9 p u with
 |true=>grind[Ew]
 | false=>
  rw[da]at hx;rcases fk.1 hx with rfl|hx
  ·simp_all[f9,lz]
  ·have key:∀(l:List TUnit),(∀k,k∈l->k∈u.kids)->x∈dB l->cw p l≠[]:=by
    intro l;induction l with
    |nil=>grind[gY]
    |cons k r ihr=>grind[bP,cK,oY,jJ]
   grind[cK,gm]
theorem Cs{α β:Type}{f:α->β}:∀{l:List α},(l.map f).Nodup->∀{x y:α},x∈l->y∈l->f x=f y->x=y
 | a::l,h,x,y,hx,hy,e=>by
  rw[eu,List.nodup_cons]at h;rcases fk.1 hx with h1|h1
  ·grind
  ·rcases fk.1 hy with h2|h2
   ·simp_all
   ·exact Cs h.2 h1 h2 e
theorem DZ{K V:Type}{kenc:K->AV}{f:V->AV}:∀(l:List (K×V))(i:Nat),(aC kenc f l i).length=l.length
 |[],_=>rfl
 |(k,v)::r,i=>by rw[aC,cO,DZ r,cO]
theorem ME(m:List (PId×Bool)):Cx [] m=m:=rfl
theorem Rc{n:Nat}(h:0<n):ae (Int.ofNat n) 0=false:=by grind[nL]
def C1(p:PId):TUnit->Option TUnit:=fun u=>(bB u).find? (f9 p)
theorem SO{p:PId}:∀(u:TUnit),(cK p u=true->C1 p u=some (ee p u))/\(cK p u=false->C1 p u=none):=by
 refine TUnit.ind fun u ih=>?_
 unfold C1;rw[da];cases hh:f9 p u with
 |true=>
  rw[List.find?_cons_of_pos (by omega)];refine⟨fun h=>?_,fun h=>by grind[Ew]⟩;unfold ee;rw[h,rv hh];rfl
 | false=>
  rw[List.find?_cons_of_neg (by simp_all)];have key:∀(r:List TUnit),(∀k,k∈r->k∈u.kids)->(cw p r≠[]->(dB r).find? (f9 p)=some (gD (cw p r) ((cw p r).length -1)))/\(cw p r=[]->(dB r).find? (f9 p)=none):=by
   intro r;induction r with
   |nil=>grind[lQ,gY]
   |cons k r ihr=>
    intro hm;have ik:=ih k (hm k (e9 ..));have ir:=ihr fun z hz=>hm z (fQ _ hz)
    rw[bP,List.find?_append];cases hk:cK p k with
    |true=>grind[C1,oY,ll,ee]
    |false=>grind[C1,jJ]
  have k2:=key u.kids fun _ h=>h
  refine⟨fun h=>?_,fun h=>?_⟩
  ·obtain⟨y,t,e⟩:=wZ h;unfold ee;rw[h,gm,hh];rw[gm,hh]at e;grind[gD]
  ·have e:=Aj h;grind[gm]
theorem gF(p:PId)(u:TUnit):f9 p u=true↔bw u=p:=⟨uG,fun h=>by simp_all[f9,lz]⟩
theorem II{y x:TUnit}:∀(u:TUnit),y∈bB u->x∈bB y->x∈bB u:=by
 refine TUnit.ind fun u ih h hx=>?_
 rw[da]at h ⊢;rcases fk.1 h with rfl|h
 ·grind[da]
 ·refine fQ _ ?_;have key:∀(l:List TUnit),(∀k,k∈l->k∈u.kids)->y∈dB l->x∈dB l:=by
   intro l;induction l with
   |nil=>grind[gY]
   |cons k r ihr=>grind[bP]
  simp_all
theorem jV{y x u:TUnit}(h:y∈bB u)(hx:x∈bB y):x∈bB u:=II u h hx
theorem Ph{x:TUnit}:∀(u:TUnit),x∈bB u->nU x<=nU u:=by
 refine TUnit.ind fun u ih h=>?_
 rw[da]at h;rcases fk.1 h with rfl|h
 ·omega
 ·have key:∀(l:List TUnit),(∀k,k∈l->k∈u.kids)->x∈dB l->nU x<nU u:=by
   intro l;induction l with
   |nil=>grind[gY]
   |cons k r ihr=>grind[bP,Nat.lt_of_le_of_lt,iL]
  grind
theorem dT{x u:TUnit}(h:x∈bB u):nU x<=nU u:=Ph u h
section
variable{p:PId}{u w:TUnit}{r:List TUnit}
end
def kf(a b:PStep):Bool:=ae a.kind b.kind&&eV a.label b.label
mutual
def Ef:PItem->PItem->Bool
 |⟨k,a,t,w,n,u,o,ne,l,f,s,ac,im,d,e,bs⟩,v=>
  (ae k v.kind&&(ae w v.where_&&(ae n v.nth_&&(ae ac v.act&&(ae im v.item&&ae d v.day)))))
  &&((eV l v.label&&(eV f v.for_&&(eV e v.event&&(ae s.kind v.start.kind&&(ae s.day v.start.day&&eV s.event v.start.event)))))
  &&((dY kf a v.at_&&(dY kf t v.to&&(dY eV o v.old&&dY eV ne v.new)))
  &&(NL u v.unit&&C7 bs v.by_)))
def C7:List PItem->List PItem->Bool
 |[],[]=>true
 |k::r,[]=>false
 |k::r,x::s=>Ef k x&&C7 r s
 |[],x::s=>false
end
theorem Rb:∀(l m:List PItem),C7 l m=dY Ef l m:=by
 intro l;induction l with
 |nil=>intro m;cases m<;>(rw[C7];rfl)
 |cons x l ih=>intro m;cases m with|nil=>rw[C7];rfl|cons y m=>rw[C7,ih];rfl
theorem UE(u v:PItem):Ef u v=((ae u.kind v.kind&&(ae u.where_ v.where_&&(ae u.nth_ v.nth_&&(ae u.act v.act&&(ae u.item v.item&&ae u.day v.day)))))
  &&((eV u.label v.label&&(eV u.for_ v.for_&&(eV u.event v.event&&(ae u.start.kind v.start.kind&&(ae u.start.day v.start.day&&eV u.start.event v.start.event)))))
  &&((dY kf u.at_ v.at_&&(dY kf u.to v.to&&(dY eV u.old v.old&&dY eV u.new v.new)))
  &&(NL u.unit v.unit&&dY Ef u.by_ v.by_)))):=by
 cases u
 rw[Ef,Rb];rfl
noncomputable def D7(s:bZ):Bool:=aw (aB (.ofNat s.length) 1)&&(aw (aB 16 (.ofNat s.length))&&(aw (aB (.ofNat (gD s 0).toNat) 97)&&(aw (aB 122 (.ofNat (gD s 0).toNat))&&eV (Lib.trimS s [97,98,99,100,101,102,103,104,105,106,107,108,109,110,111,112,113,114,115,116,117,118,119,120,121,122,48,49,50,51,52,53,54,55,56,57,45]) [])))
def rN(n:Bool)(s:PStart):Bool:=bif ae s.kind 0||ae s.kind 2 then ae s.day 0&&eV s.event []else bif ae s.kind 1 then(aw (aB s.day 0)&&aw (aB 1048576 s.day))&&eV s.event []else bif ae s.kind 3 then ae s.day 0&&n else false
def bC(s:PStep)(u:TUnit):Bool:=ae u.kind s.kind&&eV u.label s.label
def gC:List PStep->List TUnit->List TUnit
 |[],l=>l
 |s::r,l=>gC r (l.flatMap fun x=>x.kids.filter (bC s))
def dl(u:TUnit)(p:List PStep):List TUnit:=bif ku p then(match p with
 |[]=>[u]
 |s::r=>gC r (bif na s then[u]else(bB u).filter (bC s)))else[]
noncomputable def ab(u:TUnit)(p:List PStep):PId×Int:=match dl u p with
 |[]=>(bN,7)
 |[x]=>(bw x,0)
 |_=>(bN,8)
def iY(p:PId)(u:TUnit):Bool:=aw (aB (.ofNat (aF p u).length) 2)
noncomputable def Ia(p:PId)(u:TUnit):TUnit:=gD (aF p u) ((aF p u).length -2)
noncomputable def sM(p:PId)(u:TUnit):PId:=bif iY p u then bw (Ia p u)else bN
noncomputable def qp(p:PId)(u:TUnit):Int:=bif iY p u then cM (cK p) (Ia p u).kids 0 else -1
def pP(p:PId)(u:TUnit):List PId:=(((aF p u).take ((aF p u).length -1)).map bw).reverse
structure PSpot where
 id:PId
 at_:Int
 deriving Inhabited
noncomputable def fe(s:PSpot):AV:=.agg [.int .i64 s.id.a,.int .i64 s.id.i,.int .i64 s.id.n,.int .i64 s.at_]
def dO:PSpot:=⟨bN,0⟩
noncomputable def nO(u:TUnit)(p:PId)(n:Int):PSpot×Int:=bif iY p u then(⟨sM p u,qp p u+n⟩,0)else(dO,9)
noncomputable def dc(w:Int)(u:TUnit)(p:PId):PSpot×Int:=bif ae w 0 then(⟨p,0⟩,0)else bif ae w 1 then(⟨p,.ofNat (ee p u).kids.length⟩,0)else bif ae w 2 then nO u p 1 else nO u p 0
def iG(n:Int):Bool:=aw (aB n 0)&&aw (aB 3 n)
def cp(act item:Int):List bZ->Nat->List PWord
 |[],_=>[]
 |s::r,n=>⟨s,act,item,.ofNat n⟩::cp act item r (n+1)
def b8(l:List PWord):List bZ:=l.map fun w=>w.text
theorem gU(a i:Int):∀(l:List bZ)(n:Nat),(cp a i l n).length=l.length
 |[],_=>rfl
 |s::r,n=>by rw[cp,cO,gU a i r,cO]
mutual
def cP(a i:Int):TUnit->Nat->Nat->TUnit
 |⟨_,_,_,k,l,h,ws,ks⟩,n,w=>⟨a,i,.ofNat (n+1),k,l,cp a i (b8 h) w,cp a i (b8 ws) (w+h.length),fw a i ks (n+1) (w+h.length+ws.length)⟩
def fw(a i:Int):List TUnit->Nat->Nat->List TUnit
 |[],_,_=>[]
 |k::r,n,w=>cP a i k n w::fw a i r (n+nU k) (w+(ny k).length)
end
theorem Cq(a i:Int)(u:TUnit)(n w:Nat):cP a i u n w=⟨a,i,.ofNat (n+1),u.kind,u.label,cp a i (b8 u.head) w,cp a i (b8 u.words) (w+u.head.length),fw a i u.kids (n+1) (w+u.head.length+u.words.length)⟩:=by cases u;rw[cP];rfl
theorem Fu(a i:Int)(n w:Nat):fw a i [] n w=[]:=by rw[fw]
theorem Dt(a i:Int)(k:TUnit)(r:List TUnit)(n w:Nat):fw a i (k::r) n w=cP a i k n w::fw a i r (n+nU k) (w+(ny k).length):=by rw[fw]
def vM(part:List bZ):Nat->List bZ->Nat->List Nat
 |0,_,_=>[]
 |f+1,l,i=>bif Nat.ble (i+part.length) l.length then(bif dY eV ((l.drop i).take part.length) part then i::vM part f l (i+part.length)else vM part f l (i+1))else[]
def uv(l part:List bZ):List Nat:=bif part.isEmpty then[]else vM part (l.length+1) l 0
def pq(w:PWord):Bool:=aw (ae w.act 0&&(ae w.item 0&&ae w.at_ 0))
def Dc(x:TUnit):Bool:=f9 bN x&&(aw (x.head.any pq)&&aw (x.words.any pq))
def HS(u:TUnit):Bool:=lZ u&&wy Dc u
def g9(w:PWord):PWord:=⟨w.text,0,0,0⟩
mutual
def cL:TUnit->TUnit
 |⟨_,_,_,k,l,h,w,ks⟩=>⟨0,0,0,k,l,h.map g9,w.map g9,tG ks⟩
def tG:List TUnit->List TUnit
 |[]=>[]
 |k::r=>cL k::tG r
end
theorem yP:∀(l:List TUnit),tG l=l.map cL
 |[]=>by rw[tG];rfl
 |k::r=>by rw[tG,yP r];rfl
theorem mp(u:TUnit):cL u=⟨0,0,0,u.kind,u.label,u.head.map g9,u.words.map g9,u.kids.map cL⟩:=by cases u;rw[cL,yP];rfl
theorem QG{p:PId}{u:TUnit}(h:cK p u=false):iY p u=false:=by unfold iY;rw[Aj h];rfl
theorem Wa{p:PId}{u:TUnit}(h:iY p u=false):sM p u=bN:=by unfold sM;simp_all
theorem Pu{p:PId}{u:TUnit}(h:iY p u=false):qp p u= -1:=by unfold qp;simp_all
theorem IL{p:PId}{u:TUnit}(h:iY p u=true):sM p u=bw (Ia p u):=by unfold sM;simp_all
theorem IM{p:PId}{u:TUnit}(h:iY p u=true):qp p u=cM (cK p) (Ia p u).kids 0:=by unfold qp;simp_all
def oG(p:PId)(u:TUnit)(k:Nat):List PId:=((((aF p u).take ((aF p u).length -1)).drop k).map bw).reverse
theorem EI(p:PId)(u:TUnit):oG p u 0=pP p u:=rfl
theorem Df(p:PId)(u:TUnit):oG p u ((aF p u).length -1)=[]:=by
 unfold oG;simp_all
theorem BX(p:PId)(u:TUnit){k:Nat}(h:k+1<(aF p u).length):oG p u k=oG p u (k+1)++[bw (gD (aF p u) k)]:=by
 unfold oG;have h1:k<((aF p u).take ((aF p u).length -1)).length:=by grind
 rw[Oi h1,eu,List.reverse_cons];grind[gD]
theorem De(p:PId)(u:TUnit)(k:Nat):(oG p u k).length<=(aF p u).length:=by grind[oG]
def lF(s:PStep)(u:TUnit):List TUnit:=(bB u).filter (bC s)
def dq(s:PStep)(l:List TUnit):List TUnit:=(dB l).filter (bC s)
theorem za(s:PStep)(u:TUnit):lF s u=(bif bC s u then[u]else[])++dq s u.kids:=by
 unfold lF dq;rw[da,List.filter_cons];grind
theorem m0(s:PStep):dq s []=[]:=by unfold dq;rw[gY];rfl
theorem gS(s:PStep)(k:TUnit)(r:List TUnit):dq s (k::r)=lF s k++dq s r:=by grind[lF,dq,bP]
theorem mB(s:PStep)(u:TUnit):(lF s u).length<=nU u:=by grind[lF,GQ]
theorem sR:∀(l m:List TUnit),eJ (l++m)=eJ l+eJ m
 |[],m=>by rw[mg,yp,fO]
 |x::r,m=>by rw[yB,be,be,sR r m,Nat.add_assoc]
theorem zu(q:TUnit->Bool):∀(l:List TUnit),eJ (l.filter q)<=eJ l
 |[]=>by simp_all
 |x::r=>by
  rw[List.filter_cons,be];have:=zu q r;cases q x with
  |true=>rw[if_pos rfl,be];omega
  |false=>grind
theorem zt(q:TUnit->Bool):∀(l:List TUnit),eJ (l.flatMap fun x=>x.kids.filter q)<=eJ l
 |[]=>by simp_all
 |x::r=>by
  rw[E9,sR,be];have:=zt q r;grind[zu,jk]
theorem K4{n:Nat}:∀(l:List TUnit),(∀x,x∈l->nU x<=n)->eJ l<=n*l.length
 |[],_=>by simp_all[mg]
 |x::r,h=>by
  rw[be,cO,Nat.mul_add,Nat.mul_one];have:=h x (e9 ..);have:=K4 r fun y hy=>h y (fQ _ hy)
  omega
theorem Gw(s:PStep)(u:TUnit)(hp:∀x,x∈bB u->nU x<=nU u):eJ (lF s u)<=nU u*nU u:=by
 have h1:=K4 (n:=nU u) (lF s u) fun x hx=>hp x (BG.1 hx).1
 exact bO h1 (Nat.mul_le_mul_left _ (mB s u))
theorem Ii(l:List TUnit):gC [] l=l:=rfl
theorem Jj{u:TUnit}{p:List PStep}(h:ku p=false):dl u p=[]:=by unfold dl;simp_all
theorem G9{u:TUnit}(h:ku []=true):dl u []=[u]:=by unfold dl;simp_all
theorem HQ{u:TUnit}{s:PStep}{r:List PStep}(h:ku (s::r)=true)(hb:na s=true):dl u (s::r)=gC r [u]:=by
 unfold dl;simp_all
theorem xq{u:TUnit}{s:PStep}{r:List PStep}(h:ku (s::r)=true)(hb:na s=false):dl u (s::r)=gC r (lF s u):=by
 unfold dl;rw[h];show gC r (bif na s then[u]else(bB u).filter (bC s))=_
 rw[hb];rfl
def ce(s:PStep)(l:List TUnit):List TUnit:=l.flatMap fun x=>x.kids.filter (bC s)
section
variable{s:PStep}{l m r r1 X:List TUnit}{w w1:TUnit}{n N:Nat}{rs0:List PStep}{R at0:List TUnit}
theorem JJ:ce s []=[]:=rfl
theorem xW:ce s (w::r)=w.kids.filter (bC s)++ce s r:=by grind[ce]
theorem Il(rs:List PStep):gC (s::rs) l=gC rs (ce s l):=rfl
theorem Gv:eJ (ce s l)<=eJ l:=zt _ l
theorem fA(h:R=gC (s::rs0) l/\eJ l<=N)(e:ce s []=ce s l):R=gC rs0 []/\eJ []<=N:=⟨by rw[h.1,Il,<-e];rfl,by simp_all[mg]⟩
theorem fB(h:R=gC (s::rs0) l/\eJ l<=N)(e:m++ce s []=ce s l):R=gC rs0 m/\eJ m<=N:=by grind[JJ,Il,Gv]
theorem gA(h:ce s (w1::r1)=X):w1.kids.filter (bC s)++ce s r1=X:=xW.symm.trans h
theorem gB(h:n=m.length/\m++ce s (w1::r1)=X/\m.length+eJ (w1::r1)<N):n=m.length/\m++(w1.kids.filter (bC s)++ce s r1)=X/\m.length+(eJ w1.kids+eJ r1)<N:=⟨h.1,xW (s:=s)▸h.2.1,by grind[be,jk]⟩
theorem hA0(h:(w::r).filter (bC s)++ce s r1=X)(q:bC s w=false):r.filter (bC s)++ce s r1=X:=by simp_all
theorem hB0(h:n=m.length/\m++((w::r).filter (bC s)++ce s r1)=X/\m.length+(eJ (w::r)+eJ r1)<N)(q:bC s w=false):n=m.length/\m++(r.filter (bC s)++ce s r1)=X/\m.length+(eJ r+eJ r1)<N:=⟨h.1,by simp_all,by grind[be]⟩
theorem hB1(h:n=m.length/\m++((w::r).filter (bC s)++ce s r1)=X/\m.length+(eJ (w::r)+eJ r1)<N)(q:bC s w=true):n+1=(m++[w]).length/\(m++[w])++(r.filter (bC s)++ce s r1)=X/\(m++[w]).length+(eJ r+eJ r1)<N:=⟨by simp_all,by simp_all,by grind[I5,be]⟩
end
section
variable{p:PId}{u:TUnit}{i:Int}{l:List PId}
theorem OZ(hn:i=Int.ofNat (aF p u).length -2)(h0:aB i 0=false):[bw (gD (aF p u) i.toNat)]=oG p u (i-1+1).toNat:=by
 have h0:=aE h0;simp only[aN]at hn;have e:(i-1+1).toNat=i.toNat:=by omega
 rw[e,BX p u (k:=i.toNat) (by omega),show i.toNat+1=(aF p u).length -1 by omega,Df,yp]
theorem H6(h:l=oG p u (i+1).toNat)(hi:i+2<=(aF p u).length)(h0:aB i 0=false):l++[bw (gD (aF p u) i.toNat)]=oG p u (i-1+1).toNat:=by
 have h0:=aE h0;grind[BX]
theorem Se(h:l=oG p u (i+1).toNat)(hi: -1<=i)(h0:aB i 0=true):l=pP p u:=by
 have h0:=aA h0;rw[h,show(i+1).toNat=0 by omega,EI]
theorem Sd(hn:i=Int.ofNat (aF p u).length -2)(h0:aB i 0=true):pP p u=[]:=by
 have h0:=aA h0;simp only[aN]at hn;rw[<-EI];have:(aF p u).length -1=0:=by omega
 grind[Df]
end
theorem KL{s:PStep}{l m:List TUnit}(h:dq s l=m)(hm:m≠[]):l≠[]:=by grind[m0]
theorem V8(l:List TUnit){z:AV}(hz:z.top=0):aj (l.map aq++[z])=0:=kX.2 fun x hx=>by grind[iU]
theorem o9{l x r:List TUnit}{w:TUnit}{j:Nat}(h1:l.drop j=x)(h2:x=w::r):nU w+eJ r<=eJ l:=by
 have e:l=l.take j++(w::r):=by grind[List.take_append_drop]
 grind[sR,be]
end Go.Ev
namespace Go.Ev
open Go
def qh(l:List bZ)(n:Int):Bool:=qi l&&aw (aB (.ofNat l.length) n)
def Br(n:Int):Bool:=aw (aB n 0)&&aw (aB 256 n)
theorem tJ{u:TUnit}(p:List PStep)(h:nU u<=2^11):(dl u p).length<=2^22:=by
 have key:∀(rs:List PStep)(l:List TUnit),eJ (gC rs l)<=eJ l:=by
  intro rs;induction rs with
  |nil=>intro l;exact ah _
  |cons s r ih=>grind[Il,Gv]
 unfold dl;cases ku p with
 |false=>simp_all
 | true=>
  simp only[cond_true];cases p with
  |nil=>simp_all
  | cons s r=>
   simp only[];refine bO (yx _) (bO (key r _) ?_);cases na s with
   |true=>grind[be,mg]
   |false=>
    simp only[cond_false];have h1:=Gw s u fun x hx=>dT hx
    have h2:nU u*nU u<=2^11*2^11:=Nat.mul_le_mul h h;exact bO h1 h2
theorem xw{u:TUnit}{p:List PStep}(h:dl u p=[]):ab u p=(bN,7):=by grind[ab]
theorem xk{u x:TUnit}{p:List PStep}(h:dl u p=[x]):ab u p=(bw x,0):=by grind[ab]
theorem xj{u x y:TUnit}{r:List TUnit}{p:List PStep}(h:dl u p=x::y::r):ab u p=(bN,8):=by grind[ab]
def xo(own:PId)(i:Int)(ok:Bool)(n:Int):PSpot×Int:=bif ok then(⟨own,i+n⟩,0)else(dO,9)
def Ca(e:Int)(sp:PSpot)(e2:Int):PSpot×Int:=bif ae e 0 then(bif ae e2 0 then(sp,0)else(dO,e2))else(dO,e)
def n9(p q own:PId)(at_:Int)(ok c bs:Bool)(sp:PSpot)(e:Int):PSpot×Int:=
 bif aw ok||((aw (bK q p)&&c)||(bK q p&&aw bs))then(dO,9)
 else bif bK q p then(⟨own,at_⟩,0)
 else bif ae e 0&&(bK sp.id own&&aB at_ sp.at_)then(⟨sp.id,sp.at_-1⟩,e)else(sp,e)
end Go.Ev
