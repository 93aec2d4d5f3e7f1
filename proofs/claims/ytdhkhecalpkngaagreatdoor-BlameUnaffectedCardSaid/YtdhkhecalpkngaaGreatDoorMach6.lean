/- An abstract machine for runs of the program, proved sound against the model: part 6. No conditions. -/
import Derived.Test.YtdhkhecalpkngaaGreatDoorMach5
import Derived.Shelf.SortM.Plain
import Derived.Shelf.SortM.SortNone
import Derived.Shelf.SlSortCmp.NoneTotal
import Derived.Shelf.SlicesG.CompactI
import Derived.Lib.QuietBelow
import GoSem.ClaimJoined
import Derived.Calls
import Derived.RunT
import Derived.Below
import Derived.Shelf.Strings.FuncGrows
import Derived.Laws.RangeAny
import Derived.Lib.Join
import Derived.Lib.Repeat
import Derived.Lib.SlTrimSet
namespace Go.Ev
open Go Go.Sort Go.Proofs
section
variable{P:Program}{G:eh}{pl:Pl}{M:dg}{h:AHeap}{w w':World}
theorem tZ(hr:ce pl M h w){id:Nat}{p:Place}{sz:Nat}{op:Bool}{ep:Nat}{xs xs':List AV}{c c':Array Value}{t:TypeId}(hp:pl id=some p)(hg:h.get id=some (.row sz op ep xs))
  (hb:w.heap[p.blk]?=some (.cells c t (0,0)))(hw:w'.heap[p.blk]?=some (.cells c' t (0,0)))(hcs:c'.size=c.size)(hlen:xs'.length=xs.length)(hel:∀x,x∈xs'->x.cells.length=sz/\Sc x)
  (hcell:∀i x j y,xs'[i]?=some x->x.cells[j]?=some y->VRel pl M y (c'.getD (i*sz+j) undef))(hs:WSame w w')(hsz:w.heap.size<=w'.heap.size)(hk:∀b,b<w.heap.size->b≠p.blk->w'.heap[b]?=w.heap[b]?):
  ce pl M (h.put id (.row sz op ep xs')) w'/\cN h pl M w (h.put id (.row sz op ep xs')) pl M w':=by
 have ho:=hr.obj id p _ hp hg;rw[hb]at ho;simp only[bc]at ho;obtain⟨h1,h2,h3,h4,h5,h6,h7,h8⟩:=ho;have e:=qU (pl:=pl) hp;have:=ce.change (p':=p) (o':=.row sz op ep xs') hr hp hg (.inl rfl) hs hsz hk (.inl rfl) (rL.1 hw).1 (by
  rw[e,hw];simp only[bc];refine⟨h1,h2,by omega,by omega,trivial,h6,fun e=>by simp_all,⟨?_,hel,fun i x j y q1 q2=>?_⟩⟩
  ·grind[cases InMem]
  simp_all)
 simp_all
variable{β:Type}[Inhabited β]
theorem qC{enc:β->Value}{blk off n:Nat}{d:Array β}{os:Array Obj}{c:Array Value}{t:TypeId}{fr:Nat×Nat}(hb:w.heap[blk]?=some (.cells c t fr)):
  (grow (putRow enc (Sort.ahead w n) blk off d) os).heap[blk]?=some (.cells (putCells enc off d c) t fr):=by
 grind[grow,putRow,mapBlock,Sort.ahead,onCells]
theorem kw{enc:β->Value}{blk off n:Nat}{d:Array β}{os:Array Obj}{b:Nat}(hb:b<w.heap.size)(hne:b≠blk):
  (grow (putRow enc (Sort.ahead w n) blk off d) os).heap[b]?=w.heap[b]?:=by
 simp only[grow,putRow,mapBlock,Sort.ahead];grind
theorem n6{enc:β->Value}{blk off n:Nat}{d:Array β}{os:Array Obj}:WSame w (grow (putRow enc (Sort.ahead w n) blk off d) os):=⟨rfl,rfl,rfl,Nat.le_add_right _ _⟩
theorem Br{enc:β->Value}{blk off n:Nat}{d:Array β}{os:Array Obj}:w.heap.size<=(grow (putRow enc (Sort.ahead w n) blk off d) os).heap.size:=by simp_all
theorem nT{enc:β->Value}{d:Array β}{c:Array Value}{k:Nat}(hk:k<d.size)(hc:k<c.size):(putCells enc 0 d c).getD k undef=enc d[k]!:=by simp_all[putCells]
theorem qx(hr:ce pl M h w){id ep len sz:Nat}{op:Bool}{cap:Option Nat}{xs:List AV}{x:Value}(hv:VRel pl M (.slice id ep 0 len cap) x)(hg:h.get id=some (.row sz op ep xs))(hl:0<len):
  ∃p c t cap',pl id=some p/\w.heap[p.blk]?=some (.cells c t (0,0))/\x=.slice (some ⟨p.blk,0,none⟩) len cap'/\InMem pl M c 0 sz xs/\0<sz/\p.blk<w.heap.size:=by
 cases hv with
 | slice hp he hle hk ha=>
  rename_i cap' a p;have ho:=hr.obj id p _ hp hg;cases hb:w.heap[p.blk]? with
  |none=>grind[bc]
  |some ob=>
   rw[hb]at ho;cases ob<;>simp only[bc]at ho
   rename_i c t fr;obtain⟨h1,h2,h3,h4,h5,h6,h7,h8⟩:=ho;subst h5;obtain⟨k1,_⟩:=ha (by omega);have k2:a=⟨p.blk,0,none⟩:=by grind
   exact⟨p,c,t,_,hp,hb,by rw[k2],h8,h6,(rL.1 hb).1⟩
def dG(zs:List Int):List Int:=zs.mergeSort fun x y=>decide (x<=y)
theorem kM(zs:List Int):(dG zs).Perm zs:=List.mergeSort_perm ..
theorem Ds(zs:List Int):(dG zs).Pairwise (fun a b=>a<=b):=by
 have:=List.pairwise_mergeSort (le:=fun x y:Int=>decide (x<=y)) (by grind) (by grind) zs;exact this.imp (by simp)
theorem CN{c:Array Value}{sz:Nat}{xs:List AV}(hm:InMem pl M c 0 sz xs){i:Nat}{x:AV}(hx:xs[i]?=some x){j:Nat}(hj:j<sz):i*sz+j<c.size/\∃y,x.cells[j]?=some y/\VRel pl M y (c.getD (i*sz+j) undef):=by
 have h1:=hm.fit;have hi:=(fe.1 hx).1;have h2:=(hm.elem x (bh hx)).1;have h3:(i+1)*sz<=xs.length*sz:=ef _ hi;rw[jF]at h3;refine⟨by omega,x.cells[j],by simp_all,?_⟩;have:=hm.cell i x j _ hx (ko (by omega:j<x.cells.length));simp_all
theorem Bf{f:FuncId}(hE:∀vs w,(callFunc f vs).run P w=.ok (.enter f vs) w)
  (hC:∀(blk off cap:Nat)(zs:List Int)(w:World),Holds (Value.int .i64) w blk off zs.toArray->blk<w.heap.size->zs.length<4611686018427387904->
   Calls P f #[.slice (some ⟨blk,off,none⟩) zs.length cap] w fun e w'=>e=.returned (.tuple #[])/\∃n os,w'=grow (putRow (Value.int .i64) (Sort.ahead w n) blk off (zs.mergeSort fun x y=>decide (x<=y)).toArray) os)
  {id ep:Nat}{op:Bool}{cap:Option Nat}(zs:List Int)(hg:h.get id=some (.row 1 op ep (zs.map bZ)))(hz:0<zs.length)(hb:zs.length<4611686018427387904):
  aF P G f [.slice id ep 0 zs.length cap] h (fun v h'=>v=.tuple []/\h'=h.put id (.row 1 op ep ((dG zs).map bZ))):=by
 intro pl M w vs hG hr hv;obtain⟨a,rfl,hv1⟩:=Sv hv;obtain⟨p,c,t,cap',hp,hbl,rfl,hm,_,hlt⟩:=qx hr hv1 hg hz;have hcell:∀j z,zs[j]?=some z->j<c.size/\c.getD j undef=.int .i64 z:=by
  intro j z hj;have hx:(zs.map bZ)[j]?=some (bZ z):=by simp_all
  obtain⟨q1,y,q2,q3⟩:=CN hm hx (j:=0) (by omega);rw[Nat.mul_one,pD]at q1 q3;simp[bZ,AV.cells]at q2;subst q2;refine⟨q1,?_⟩;cases hq:c.getD j undef<;>rw[hq]at q3<;>cases q3
  rfl
 refine .inl ⟨hE _ _,Calls.mono (hC p.blk 0 cap' zs w (fun j hj=>?_) hlt hb) fun e w' ⟨he,n,os,hw⟩=>?_⟩
 ·have hj':j<zs.length:=by omega
  obtain⟨q1,q2⟩:=hcell j zs[j] (ko hj');rw[f8];refine⟨?_,?_⟩
  ·simp only[World.cell?,hbl];simp only[Option.isSome_none,fE,if_false];rw[FW q1];simp_all
  grind[World.frozen?]
 ·refine⟨.tuple #[],.tuple [],_,he,⟨rfl,rfl⟩,pl,M,rW,?_⟩;have hlen:(dG zs).length=zs.length:=(kM zs).length_eq;have hw1:w'.heap[p.blk]?=some (.cells (putCells (Value.int .i64) 0 (dG zs).toArray c) t (0,0)):=by rw[hw];exact qC hbl
  obtain⟨r1,r2⟩:=tZ (w':=w') (xs':=(dG zs).map bZ) hr hp hg hbl hw1 (by simp[putCells]) (by simp_all) (fun x hx=>by
    obtain⟨z,_,rfl⟩:=iS.1 hx;exact⟨rfl,fun y hy=>by simp[bZ,AV.cells]at hy;subst hy;rfl⟩) (fun i x j y q1 q2=>by
    rw[qJ]at q1;obtain⟨z,e1,rfl⟩:=FX.1 q1;have hi:=(fe.1 e1).1;cases j with
    |succ j=>grind[bZ,AV.cells]
    |zero=>
     simp[bZ,AV.cells]at q2;subst q2;rw[Nat.mul_one,pD,nT (by omega) (hcell i zs[i] (ko (by omega))).1];have:(dG zs).toArray[i]! =z:=by simp_all
     rw[this];exact .int _ _) (by grind[n6]) (by simp_all) (fun b hb hne=>by grind[kw])
  exact⟨r1,r2,af _⟩
def bb(zs:List Int):List Int:=Lib.compact zs
theorem xq(zs:List Int):(bb zs).length<=zs.length:=by grind[bb,Lib.compact,Lib.compactUpTo]
theorem vR{f:FuncId}(hE:∀vs w,(callFunc f vs).run P w=.ok (.enter f vs) w)
  (hC:∀(blk off cap:Nat)(zs:List Int)(w:World),Holds (Value.int .i64) w blk off zs.toArray->zs.length<=9223372036854775807->zs.length<=cap->
   Calls P f #[.slice (some ⟨blk,off,none⟩) zs.length cap] w fun e w'=>e=.returned (.slice (some ⟨blk,off,none⟩) (Lib.compact zs).length cap)/\∃q,w'=putRow (Value.int .i64) (Sort.ahead w q) blk off (Lib.compact zs++List.replicate (zs.length-(Lib.compact zs).length) 0).toArray)
  {id ep:Nat}{op:Bool}(zs:List Int)(hg:h.get id=some (.row 1 op ep (zs.map bZ)))(hz:0<zs.length)(hb:zs.length<4611686018427387904):
  aF P G f [.slice id ep 0 zs.length none] h (fun v h'=>v=.slice id ep 0 (bb zs).length none/\h'=h.put id (.row 1 op ep ((bb zs++List.replicate (zs.length-(bb zs).length) 0).map bZ))):=by
 intro pl M w vs hG hr hv;obtain⟨a,rfl,hv1⟩:=Sv hv;obtain⟨p,c,t,cap',hp,hbl,rfl,hm,_,hlt⟩:=qx hr hv1 hg hz;have hcell:∀j z,zs[j]?=some z->j<c.size/\c.getD j undef=.int .i64 z:=by
  intro j z hj;have hx:(zs.map bZ)[j]?=some (bZ z):=by simp_all
  obtain⟨q1,y,q2,q3⟩:=CN hm hx (j:=0) (by omega);rw[Nat.mul_one,pD]at q1 q3;simp[bZ,AV.cells]at q2;subst q2;refine⟨q1,?_⟩;cases hq:c.getD j undef<;>rw[hq]at q3<;>cases q3
  rfl
 have hle:=xq zs;have hcap:zs.length<=cap':=by grind[cases VRel]
 generalize hnew:bb zs++List.replicate (zs.length-(bb zs).length) 0=ns;have hnl:ns.length=zs.length:=by grind
 refine .inl ⟨hE _ _,Calls.mono (hC p.blk 0 cap' zs w (fun j hj=>?_) (by omega) hcap) fun e w' ⟨he,n,hw⟩=>?_⟩
 ·have hj':j<zs.length:=by omega
  obtain⟨q1,q2⟩:=hcell j zs[j] (ko hj');rw[f8];refine⟨?_,?_⟩
  ·simp only[World.cell?,hbl];simp only[Option.isSome_none,fE,if_false];rw[FW q1];simp_all
  grind[World.frozen?]
 ·have hw2:w'=grow (putRow (Value.int .i64) (Sort.ahead w n) p.blk 0 ns.toArray) #[]:=by rw[hw,grow_empty];congr 2
  have hrel:VRel pl M (.slice id ep 0 (bb zs).length none) (.slice (some ⟨p.blk,0,none⟩) (bb zs).length cap'):=by
   cases hv1 with
   |slice hp he hl hk ha=>
    refine .slice hp he (by omega) hk fun e=>?_
    grind
  refine⟨_,_,_,he,⟨rfl,rfl⟩,pl,M,hrel,?_⟩;have hw1:w'.heap[p.blk]?=some (.cells (putCells (Value.int .i64) 0 ns.toArray c) t (0,0)):=by grind[qC]
  obtain⟨r1,r2⟩:=tZ (w':=w') (xs':=ns.map bZ) hr hp hg hbl hw1 (by simp[putCells]) (by simp_all) (fun x hx=>by
    obtain⟨z,_,rfl⟩:=iS.1 hx;exact⟨rfl,fun y hy=>by simp[bZ,AV.cells]at hy;subst hy;rfl⟩) (fun i x j y q1 q2=>by
    rw[qJ]at q1;obtain⟨z,e1,rfl⟩:=FX.1 q1;have hi:=(fe.1 e1).1;cases j with
    |succ j=>grind[bZ,AV.cells]
    |zero=>
     simp[bZ,AV.cells]at q2;subst q2;rw[Nat.mul_one,pD,nT (by omega) (hcell i zs[i] (ko (by omega))).1];have:ns.toArray[i]! =z:=by simp_all
     rw[this];exact .int _ _) (by grind[n6]) (by simp_all) (fun b hb hne=>by grind[kw])
  exact⟨r1,r2,af _⟩
theorem Dt{f:FuncId}(hE:∀vs w,(callFunc f vs).run P w=.ok (.enter f vs) w)
  (hC:∀(p:Option Addr)(cap:Nat)(w:World),Calls P f #[.slice p 0 cap] w fun e w'=>e=.returned (.tuple #[])/\w'=w):aT P G f [.nils] (.tuple []):=by
 intro h pl M w vs hG hr hv;obtain⟨a,rfl,hv1⟩:=Sv hv;cases hv1
 exact .inl ⟨hE _ _,Calls.mono (hC none 0 w) fun e w' ⟨he,hw⟩=>⟨.tuple #[],.tuple [],h,he,⟨rfl,rfl⟩,pl,M,rW,by simp_all[StepF.refl]⟩⟩
theorem oX{f:FuncId}{g:Fn}(hE:∀vs w,(callFunc f vs).run P w=.ok (.enter f vs) w)
  (hC:∀(p:Option Addr)(cap:Nat)(fv:Value)(w:World),Calls P f #[.slice p 0 cap,fv] w fun e w'=>e=.returned (.tuple #[])/\w'=w):aT P G f [.nils,.func g [] []] (.tuple []):=by
 intro h pl M w vs hG hr hv;obtain⟨a,b,rfl,hv1,hv2⟩:=A8 hv;cases hv1
 exact .inl ⟨hE _ _,Calls.mono (hC none 0 b w) fun e w' ⟨he,hw⟩=>⟨.tuple #[],.tuple [],h,he,⟨rfl,rfl⟩,pl,M,rW,by simp_all[StepF.refl]⟩⟩
def vD{α:Type}(cmp:α->α->Int)(a b:α):Bool:=decide (cmp a b<0)
theorem r9{f g:FuncId}{sz:Nat}(hGT:iL G)(hE:∀vs w,(callFunc f vs).run P w=.ok (.enter f vs) w)(hg2:∀args w,(callFunc g args).run P w=.ok (.enter g args) w)
  (hC:∀(m:Nat)(enc:Fin (m+1)->List Value)(cf:Fin (m+1)->Fin (m+1)->Int)(blk off cap:Nat)(d:Array (Fin (m+1)))(w:World),(∀x,(enc x).length=sz)->(∀x,∀v∈enc x,v.oneCell'=true)->SWO (ltOf cf)->
   CmpLays P g #[] enc sz cf blk off d.size w->HoldsK enc sz w blk off d->blk<w.heap.size->d.size<4611686018427387904->
   Calls P f #[.slice (some ⟨blk,off,none⟩) d.size cap,.func (.func g) #[] #[]] w fun e w'=>e=.returned (.tuple #[])/\∃d' n os,PermIn 0 d.size d d'/\SortedIn (ltOf cf) 0 d.size d'/\w'=sortWorldK enc sz w blk off n d' os)
  {α:Type}[Inhabited α](enc:α->AV)(cmp:α->α->Int)(hO:SWO (vD cmp))(hag:∀a,∃cs,enc a=.agg cs)(htop:∀a,(enc a).top=0)
  (l:List α)(hcmp:∀a,a∈l->∀b,b∈l->aT P G g [enc a,enc b] (.int .i64 (cmp a b)))
  {oid ep:Nat}{op:Bool}{cap:Option Nat}(hg:h.get oid=some (.row sz op ep (l.map enc)))(hz:0<l.length)(hb:l.length<4611686018427387904):
  aF P G f [.slice oid ep 0 l.length cap,.func (.func g) [] []] h (fun v h'=>∃l':List α,(l'.Perm l/\l'.Pairwise fun a b=>vD cmp b a=false)/\v=.tuple []/\h'=h.put oid (.row sz op ep (l'.map enc))):=by
 intro pl M w vs hG hr hv;obtain⟨a,fv,rfl,hv1,hv2⟩:=A8 hv;have e2:=zK hv2;subst e2;obtain⟨p,c,t,cap',hp,hbl,rfl,hm,hsz0,hlt⟩:=qx hr hv1 hg hz;obtain⟨m,hm1⟩:∃m,l.length=m+1:=⟨l.length-1,by omega⟩
 have hfit:=hm.fit;rw[cX,f8,hm1]at hfit;have helem:∀i:Fin (m+1),(l.map enc)[i.1]?=some (enc l[i.1]!):=fun i=>by
  have:=i.2;rw[qJ,ko (by omega),getElem!_pos l i.1 (by omega)];rfl
 have hmul:∀i:Fin (m+1),i.1*sz+sz<=(m+1)*sz:=fun i=>by have:=ef sz (Nat.succ_le_of_lt i.2);rwa[qK]at this
 generalize hcof:(fun i:Fin (m+1)=>(List.range sz).map fun j=>c.getD (i.1*sz+j) undef)=cellsOf;have cl:∀i,(cellsOf i).length=sz:=fun i=>by rw[<-hcof];simp
 have cg:∀i j,j<sz->(cellsOf i)[j]?=some (c.getD (i.1*sz+j) undef):=fun i j hj=>by rw[<-hcof];simp[hj]
 generalize hd:(Array.ofFn (n:=m+1) id)=d;have hds:d.size=m+1:=by rw[<-hd];simp
 have hdg:∀j (hj:j<m+1),d[j]! =⟨j,hj⟩:=fun j hj=>by rw[getElem!_pos d j (by omega)];subst hd;simp
 have hflat:∀(dk:Array (Fin (m+1))),dk.size=m+1->∀i j,i<m+1->j<sz->(flatK cellsOf sz dk)[i*sz+j]! =c.getD ((dk[i]!).1*sz+j) undef:=fun dk hdk i j hi hj=>by
  have h1:i*sz+j<dk.size*sz:=by have:=ef sz (Nat.succ_le_of_lt hi);rw[qK]at this;rw[hdk];omega
  rw[get_flatK cellsOf sz dk _ h1];have h2:(i*sz+j)/sz=i:=by rw[Nat.mul_comm,Nat.mul_add_div hsz0,Nat.div_eq_of_lt hj,pD]
  have h3:(i*sz+j)%sz=j:=by rw[Nat.mul_comm,Nat.mul_add_mod,Nat.mod_eq_of_lt hj]
  rw[h2,h3,getElem!_pos _ j (by rw[cl];exact hj)];have:=cg (dk[i]!) j hj;rw[ko (by rw[cl];exact hj)]at this;simpa using this
 have hH:HoldsK cellsOf sz w p.blk 0 d:=by
  intro k hk;rw[size_flatK,hds]at hk;have hi:k/sz<m+1:=Nat.div_lt_of_lt_mul (by rw[Nat.mul_comm];exact hk);have hj:k%sz<sz:=Nat.mod_lt _ hsz0;have hk2:k/sz*sz+k%sz=k:=by rw[Nat.mul_comm];exact Nat.div_add_mod k sz
  have:=hflat d hds (k/sz) (k%sz) hi hj;rw[hdg _ hi,hk2]at this;rw[this,f8];have hkc:k<c.size:=by omega
  refine⟨?_,by simp[World.frozen?,hbl]⟩;simp only[World.cell?,hbl];simp only[Option.isSome_none,fE,if_false];rw[FW hkc];simp[Array.getD,hkc]
 have hrelE:∀(i:Fin (m+1)) cs,enc l[i.1]! =.agg cs->cs.length=sz/\(∀y,y∈cs->cL y=true)/\∀(j:Nat)(y:AV),cs[j]?=some y->VRel pl M y (c.getD (i.1*sz+j) undef):=by
  intro i cs hcs;have h1:=hm.elem _ (bh (helem i));rw[hcs]at h1;refine⟨h1.1,h1.2,fun j y hj=>?_⟩;have:=hm.cell i.1 _ j y (helem i) (by rw[hcs];exact hj);rwa[f8]at this
 have hone:∀i,∀v∈cellsOf i,v.oneCell'=true:=by
  intro i v hvm;obtain⟨j,hj,e⟩:=BI hvm;rw[cl]at hj;have h1:=cg i j hj;rw[ko (by rw[cl];exact hj),e]at h1;obtain⟨cs,hcs⟩:=hag l[i.1]!;obtain⟨k1,k2,k3⟩:=hrelE i cs hcs;have:=k3 j cs[j] (ko (by omega));cases h1
  exact this.one (k2 _ (De _))
 have hmemL:∀i:Fin (m+1),l[i.1]!∈l:=fun i=>by
  have:=i.2;rw[getElem!_pos l i.1 (by omega)];exact De _
 have hlays:CmpLays P g #[] cellsOf sz (fun i j=>cmp l[i.1]! l[j.1]!) p.blk 0 d.size w:=by
  intro n os dk hdk x y;generalize hW:sortWorldK cellsOf sz w p.blk 0 n dk os=W;have hWo:∀b,b<w.heap.size->b≠p.blk->W.heap[b]?=w.heap[b]?:=fun b h1 h2=>by rw[<-hW];exact kw h1 h2
  have hrW:ce (fun _=>none) M AHeap.none W:=qe (pl:=fun _=>none) (n:=0) (g:=AHeap.none.get) ⟨fun _ _ h=>by simp at h,fun _ _ _ h=>by simp at h,fun _ _ h=>by simp at h,fun _ _ _ _ h=>by simp at h,fun b c' hM=>by
   obtain⟨t',fr,q⟩:=hr.imm b c' hM;refine⟨t',fr,?_⟩;rw[hWo b (hr.memLt hM) (fun e=>by have:=hr.sep oid p hp;rw[<-e,hM]at this;cases this)];exact q,fun _ _ h=>by simp at h⟩
  have hrel:∀i:Fin (m+1),VRel (fun _=>none) M (enc l[i.1]!) (.agg (cellsOf i).toArray):=by
   intro i;obtain⟨cs,hcs⟩:=hag l[i.1]!;obtain⟨k1,k2,k3⟩:=hrelE i cs hcs;have ht:=htop l[i.1]!;rw[hcs]at ht ⊢;refine .agg (by simp[cl,k1]) k2 fun j y hj=>?_
   have hj':j<sz:=by rw[<-k1];exact(fe.1 hj).1
   have e:(cellsOf i).toArray.getD j undef=c.getD (i.1*sz+j) undef:=by
    have:=cg i j hj';rw[gw,oZ,this];rfl
   rw[e];exact(k3 j y hj).none (j8.1 ht y (bh hj))
  have hc:=hcmp _ (hmemL x) _ (hmemL y) AHeap.none (fun _=>none) M W #[.agg (cellsOf x).toArray,.agg (cellsOf y).toArray] (hG.none hGT) hrW ⟨rfl,fun j z hj=>by
   match j,hj with
   |0,hj=>cases hj;exact hrel x
   |1,hj=>cases hj;exact hrel y⟩
  rcases hc with⟨h1,h2⟩|⟨cv,w',v,h',h1,h2,h3⟩
  ·refine Calls.mono h2 fun e w' ⟨cv,v,h',k1,k2,pl',M',k3,k4,k5,k6⟩=>?_
   obtain⟨k2,_⟩:=k2;subst k2;cases k3
   refine⟨k1,?_⟩;obtain⟨q,hq⟩:=regrown_of_below (w:=W) (w':=w') ⟨k5.os,k5.tape,k5.out,k5.size,fun b hb=>k5.kept b hb fun id p h=>by simp at h⟩;refine⟨w'.drawn-W.drawn,q.os,?_⟩;have hd1:w'.drawn=q.d:=by rw[hq];rfl
   have hd2:=k5.drawn;have:redrawn W q.d=W.drewN (w'.drawn-W.drawn):=by
    show({W with drawn:=q.d}:World)={W with drawn:=W.drawn+(w'.drawn-W.drawn)}
    congr 1;omega
   rw[<-this];exact hq
  ·rw[hg2]at h1;cases h1
 refine .inl ⟨hE _ _,?_⟩;have hcall:=hC m cellsOf (fun i j=>cmp l[i.1]! l[j.1]!) p.blk 0 cap' d w cl hone ⟨fun x=>hO.irrefl _,fun x y z=>hO.trans _ _ _,fun x y z=>hO.ntrans _ _ _⟩ hlays hH hlt (by omega);rw[show d.size=l.length by omega]at hcall;refine Calls.mono hcall fun e w' ⟨he,d',n,os,hP,hS,hw⟩=>?_
 obtain⟨hp1,_,hp3⟩:=hP;have hd's:d'.size=m+1:=by omega
 have hperm:d'.toList.Perm d.toList:=by
  have e1:d'.extract 0 l.length=d':=by rw[show l.length=d'.size by omega];exact Array.extract_size
  have e2:d.extract 0 l.length=d:=by rw[show l.length=d.size by omega];exact Array.extract_size
  rwa[e1,e2]at hp3
 have hdl:d.toList.map (fun i=>l[i.1]!)=l:=by
  apply List.ext_getElem?;intro i;by_cases hi:i<l.length
  ·rw[qJ,Array.getElem?_toList,FW (by omega),ko hi];have:=hdg i (by omega);rw[getElem!_pos d i (by omega)]at this;rw[this];show some (l[i]!)=some l[i]
   rw[getElem!_pos l i hi]
  ·rw[List.getElem?_eq_none (by simp;omega),List.getElem?_eq_none (by omega)]
 have hl':(d'.toList.map (fun i=>l[i.1]!)).length=l.length:=by simp;omega
 refine⟨.tuple #[],.tuple [],_,he,⟨d'.toList.map (fun i=>l[i.1]!),⟨?_,?_⟩,rfl,rfl⟩,pl,M,rW,?_⟩
 ·have:=hperm.map (fun i=>l[i.1]!);rwa[hdl]at this
 ·rw[FZ];intro i j hi hj hij;have hi':i<d'.size:=by simpa using hi
  have hj':j<d'.size:=by simpa using hj
  have:=hS i j (bE _) hij (by omega);rw[getElem!_pos d' i hi',getElem!_pos d' j hj']at this;simpa[vD,ltOf]using this
 ·have hw1:w'.heap[p.blk]?=some (.cells (putCells id 0 (flatK cellsOf sz d') c) t (0,0)):=by rw[hw];exact qC hbl
  obtain⟨r1,r2⟩:=tZ (w':=w') (xs':=(d'.toList.map (fun i=>l[i.1]!)).map enc) hr hp hg hbl hw1 (by simp[putCells]) (by simp;omega) (fun x hx=>by
    obtain⟨z,h1,rfl⟩:=iS.1 hx;obtain⟨i,_,rfl⟩:=iS.1 h1;exact hm.elem _ (bh (helem i))) (fun i x j y q1 q2=>by
    rw[qJ,qJ,Array.getElem?_toList]at q1;obtain⟨z,e1,rfl⟩:=FX.1 q1;obtain⟨k,e2,rfl⟩:=FX.1 e1;have hi:i<d'.size:=(rL.1 e2).1;obtain⟨cs,hcs⟩:=hag l[k.1]!;obtain⟨k1,k2,k3⟩:=hrelE k cs hcs;rw[hcs]at q2;have hj:j<sz:=by rw[<-k1];exact(fe.1 q2).1
    have hb1:i*sz+j<(m+1)*sz:=by have:=ef sz (Nat.succ_le_of_lt (show i<m+1 by omega));rw[qK]at this;omega
    rw[nT (by rw[size_flatK,hd's];exact hb1) (by omega)];have:=hflat d' hd's i j (by omega) hj;have e3:d'[i]! =k:=by rw[getElem!_pos d' i hi];rw[FW hi]at e2;simpa using e2
    rw[e3]at this;show VRel pl M y (flatK cellsOf sz d')[i*sz+j]!
    rw[this];exact k3 j y q2) (by rw[hw];exact n6) (by rw[hw];exact Br) (fun b hb hne=>by rw[hw];exact kw hb hne)
  exact⟨r1,r2,af _⟩
end
theorem yx(a b:Int):au (gm a b) 0=au a b:=by
 unfold gm;cases h:au a b with
 |true=>rfl
 |false=>cases h2:au b a<;>rfl
noncomputable def n9(l:List PSpan)(d:Int):Nat:=(l.takeWhile fun s=>au s.from_ d).length
theorem Es(l:List PSpan)(d:Int):n9 l d<=l.length:=by
 induction l with
 |nil=>simp[n9]
 |cons a r ih=>grind[n9,List.takeWhile_cons]
def sq(l:List PSpan):Prop:=l.Pairwise fun a b=>a.from_<=b.from_
theorem AG{d:Int}:∀{l:List PSpan},sq l->∀k,k<l.length->(au (gD l k).from_ d=true↔k<n9 l d)
 |[],_,k,h=>by simp_all
 | a::r,hs,k,h=>by
  obtain⟨h1,h2⟩:=jE.1 hs;unfold n9;rw[List.takeWhile_cons];cases q:au a.from_ d with
  | true=>
   simp only[if_true,cO];cases k with
   |zero=>grind[gD]
   |succ k=>
    have:=AG (d:=d) h2 k (by simp_all);rw[show gD (a::r) (k+1)=gD r k from rfl,this];grind[n9]
  |false=>
   simp only[fE,if_false,gp,qZ,iff_false,Bool.not_eq_true];have hd:=aB q;grind[gY,kq]
noncomputable def Jw(l:List PSpan)(d:Int):Bool:=au (Int.ofNat (n9 l d)) (Int.ofNat l.length)&&ab (gm (gD l (n9 l d)).from_ d) 0
theorem OC{l:List PSpan}(h:l.Pairwise fun a b=>a.to<b.from_)(h2:∀s,s∈l->s.from_<s.to):sq l:=by
 induction l with
 |nil=>exact .nil
 |cons a r ih=>
  obtain⟨h3,h4⟩:=jE.1 h;refine jE.2 ⟨fun b hb=>?_,ih h4 fun s hs=>h2 s (eG _ hs)⟩;grind
structure NrmS(l:List PSpan):Prop where
 gap:l.Pairwise fun a b=>a.to<b.from_
 ok:∀s,s∈l->0<=s.from_/\s.from_<s.to/\s.to<=1048577
theorem NrmS.sort{l:List PSpan}(h:NrmS l):sq l:=OC h.gap fun s hs=>(h.ok s hs).2.1
theorem IV:∀{l:List PSpan}{b:Int},l.Pairwise (fun a b=>a.to<b.from_)->(∀s,s∈l->b<=s.from_/\s.from_<s.to/\s.to<=1048577)->b<=1048577->Int.ofNat l.length<=1048577-b
 |[],b,_,_,hb=>by simp_all
 |a::r,b,h,h2,hb=>by
  obtain⟨h3,h4⟩:=jE.1 h;have h5:=h2 a (eF ..);have:=IV (l:=r) (b:=b+1) h4 (fun s hs=>by grind) (by omega);grind
theorem NrmS.len{l:List PSpan}(h:NrmS l):l.length<=1048577:=by
 have:=IV (b:=0) h.gap h.ok (by omega);grind
noncomputable def ii(l:List PSpan)(d:Int):Bool:=Jw l d||(au 0 (Int.ofNat (n9 l d))&&au d (gD l (n9 l d-1)).to)
theorem D7(a b:Int):Ct a b=max a b:=by
 unfold Ct;cases h:au a b with
 |true=>have:=ap h;grind
 |false=>have:=aB h;grind
theorem JK(a b:Int):Nr a b=min a b:=by
 unfold Nr;cases h:au b a with
 |true=>have:=ap h;grind
 |false=>have:=aB h;grind
noncomputable abbrev V9(s:PSpan):PSpan:=⟨Ct s.from_ 0,Nr s.to 1048577⟩
noncomputable abbrev YK(s:PSpan):Bool:=au (Ct s.from_ 0) (Nr s.to 1048577)
noncomputable def jd:List PSpan->List PSpan
 |[]=>[]
 |s::r=>match YK s with|true=>V9 s::jd r|false=>jd r
theorem uI{s:PSpan}{r:List PSpan}(h:YK s=true):jd (s::r)=V9 s::jd r:=by grind[jd]
theorem uL{s:PSpan}{r:List PSpan}(h:YK s=false):jd (s::r)=jd r:=by grind[jd]
theorem DY:∀(l:List PSpan),(jd l).length<=l.length
 |[]=>by simp[jd]
 |s::r=>by
  have:=DY r;cases h:YK s with
  |true=>grind[uI]
  |false=>grind[uL]
theorem AH:∀{l:List PSpan}{s:PSpan},s∈jd l->0<=s.from_/\s.from_<s.to/\s.to<=1048577
 | a::r,s,hs=>by
  cases h:YK a with
  |true=>
   rw[uI h]at hs;rcases eu.1 hs with e|e
   ·subst e;have h2:=ap h;grind[D7,JK]
   ·exact AH e
  |false=>rw[uL h]at hs;exact AH hs
def memB(l:List PSpan)(d:Int):Bool:=l.any fun s=>decide (s.from_<=d/\d<s.to)
def OI(d:Int):Bool:=decide (0<=d/\d<1048577)
theorem mT(d:Int):memB [] d=false:=rfl
theorem ee(a:PSpan)(l:List PSpan)(d:Int):memB (a::l) d=(decide (a.from_<=d/\d<a.to)||memB l d):=rfl
theorem zA(l r:List PSpan)(d:Int):memB (l++r) d=(memB l d||memB r d):=by simp[memB]
theorem jc{l:List PSpan}{d:Int}:memB l d=true↔∃s,s∈l/\s.from_<=d/\d<s.to:=by simp[memB]
theorem Nt{l r:List PSpan}(h:l.Perm r)(d:Int):memB l d=memB r d:=by
 rw[Df,jc,jc];grind
theorem DV:∀(l:List PSpan)(d:Int),memB (jd l) d=(OI d&&memB l d)
 |[],d=>by simp[jd,memB]
 | a::r,d=>by
  have ih:=DV r d;have e:∀b:Bool,(b=decide (0<=d/\d<1048577/\a.from_<=d/\d<a.to))->(b||(OI d&&memB r d))=(OI d&&memB (a::r) d):=fun b hb=>by grind[ee,OI]
  cases h:YK a with
  |true=>
   rw[uI h,ee,ih];refine e _ ?_;simp only[D7,JK];grind
  |false=>
   rw[uL h,ih];have h2:=aB h;simp only[D7,JK]at h2;grind
theorem NrmS.tail{a:PSpan}{r:List PSpan}(h:NrmS (a::r)):NrmS r:=⟨(jE.1 h.gap).2,fun s hs=>h.ok s (eG _ hs)⟩
theorem NrmS.low{a x:PSpan}{r:List PSpan}(h:NrmS (a::r))(hx:x∈r):a.to<x.from_:=(jE.1 h.gap).1 x hx
theorem NrmS.head{a:PSpan}{r:List PSpan}(h:NrmS (a::r)):0<=a.from_/\a.from_<a.to/\a.to<=1048577:=h.ok a (eF ..)
theorem xS:NrmS []:=⟨.nil,fun s h=>by grind⟩
theorem rj{a:PSpan}{r:List PSpan}(h:NrmS (a::r)):memB (a::r) a.from_=true:=by grind[ee,cases NrmS]
theorem Gj{a:PSpan}{r:List PSpan}(h:NrmS (a::r)){d:Int}(hd:memB (a::r) d=true):a.from_<=d:=by
 obtain⟨s,h1,h2,h3⟩:=jc.1 hd;rcases eu.1 h1 with e|e
 ·simp_all
 ·have:=h.low e;grind[cases NrmS]
theorem Qx{a:PSpan}{r:List PSpan}(h:NrmS (a::r)):memB (a::r) a.to=false:=by
 cases q:memB (a::r) a.to with
 |false=>rfl
 |true=>
  obtain⟨s,h1,h2,h3⟩:=jc.1 q;rcases eu.1 h1 with e|e
  ·simp_all
  ·have:=h.low e;omega
theorem Gx{a:PSpan}{r:List PSpan}(h:NrmS (a::r))(d:Int):memB r d=(decide (a.to<=d)&&memB (a::r) d):=by
 rw[ee];by_cases h1:a.to<=d
 ·grind
 ·have:memB r d=false:=by
   cases q:memB r d with
   |false=>rfl
   |true=>
    obtain⟨s,h2,h3,h4⟩:=jc.1 q;have:=h.low h2;omega
  grind
theorem ze:∀{r s:List PSpan},NrmS r->NrmS s->(∀d,memB r d=memB s d)->r=s
 |[],[],_,_,_=>rfl
 |[],b::s,_,hs,h=>by grind[rj,mT]
 |a::r,[],hr,_,h=>by grind[rj,mT]
 | a::r,b::s,hr,hs,h=>by
  have h1:b.from_<=a.from_:=Gj hs (by grind[rj]);have h2:a.from_<=b.from_:=Gj hr (by grind[rj]);have ha:=hr.head;have hb:=hs.head;have h3:¬a.to<b.to:=fun q=>by grind[ee,Qx]
  have h4:¬b.to<a.to:=fun q=>by grind[ee,Qx]
  have e:a=b:=by
   obtain⟨a1,a2⟩:=a;obtain⟨b1,b2⟩:=b;grind
  subst e;rw[ze hr.tail hs.tail fun d=>by rw[Gx hr,Gx hs,h]]
def wW(f:Int->Bool)(d:Int)(l:List PSpan):List PSpan:=match f d with
 |false=>l
 |true=>match l with
  |[]=>[⟨d,d+1⟩]
  |s::r=>if s.from_=d+1 then⟨d,s.to⟩::r else⟨d,d+1⟩::s::r
def wi(f:Int->Bool):Nat->List PSpan
 |0=>[]
 |k+1=>wW f (1048577-Int.ofNat (k+1)) (wi f k)
theorem Om{f:Int->Bool}{d:Int}{l:List PSpan}(h0:0<=d)(h1:d+1<=1048577)(hl:NrmS l)(hf:∀s,s∈l->d+1<=s.from_):
  NrmS (wW f d l)/\(∀s,s∈wW f d l->d<=s.from_)/\∀e,memB (wW f d l) e=((decide (e=d)&&f e)||memB l e):=by
 unfold wW;cases hfd:f d with
 |false=>grind
 | true=>
  match l,hl,hf with
  |[],_,_=>
   refine⟨⟨by simp,fun s hs=>by grind⟩,fun s hs=>by simp_all,fun e=>?_⟩;simp only[ee,mT,Bool.or_false];grind
  | s::r,hl,hf=>
   have hs:=hl.head;have hs2:=hf s (eF ..);simp only[];by_cases q:s.from_=d+1
   ·rw[if_pos q];refine⟨⟨jE.2 ⟨fun x hx=>hl.low hx,hl.tail.gap⟩,fun x hx=>?_⟩,fun x hx=>?_,fun e=>?_⟩
    ·grind[cases NrmS]
    ·grind
    ·simp only[ee];grind
   ·rw[if_neg q];refine⟨⟨jE.2 ⟨fun x hx=>?_,hl.gap⟩,fun x hx=>?_⟩,fun x hx=>?_,fun e=>?_⟩
    ·have:=hf x hx;rcases eu.1 hx with e|e
     ·grind
     ·have:=hl.low e;grind
    ·rcases eu.1 hx with e|e
     ·grind
     ·exact hl.ok x e
    ·grind
    ·rw[ee];grind
theorem FT(f:Int->Bool):∀k,k<=1048577->NrmS (wi f k)/\(∀s,s∈wi f k->1048577-Int.ofNat k<=s.from_)/\∀e,memB (wi f k) e=(decide (1048577-Int.ofNat k<=e/\e<1048577)&&f e)
 |0,_=>by
  refine⟨xS,fun s h=>(by cases h),fun e=>?_⟩;have:decide (1048577-Int.ofNat 0<=e/\e<1048577)=false:=by simp_all
  rw[this];rfl
 |k+1,hk=>by
  obtain⟨h1,h2,h3⟩:=FT f k (by omega);simp only[aL]at *;have:=Om (f:=f) (d:=1048577-((k+1:Nat):Int)) (l:=wi f k) (by omega) (by omega) h1 (fun s hs=>by grind);have h5:wi f (k+1)=wW f (1048577-((k+1:Nat):Int)) (wi f k):=by grind[wi]
  grind
theorem Qk(f:Int->Bool):∃l:List PSpan,NrmS l/\∀d,memB l d=(OI d&&f d):=by
 obtain⟨h1,_,h3⟩:=FT f 1048577 (af _);exact⟨_,h1,fun d=>by simp_all[OI]⟩
noncomputable def nf(f:Int->Bool):List PSpan:=Classical.choose (Qk f)
theorem zh(f:Int->Bool):NrmS (nf f):=(Classical.choose_spec (Qk f)).1
theorem JX(f:Int->Bool)(d:Int):memB (nf f) d=(OI d&&f d):=(Classical.choose_spec (Qk f)).2 d
theorem Qw{f:Int->Bool}{r:List PSpan}(h:NrmS r)(hm:∀d,memB r d=(OI d&&f d)):r=nf f:=ze h (zh f) fun d=>by grind[JX]
theorem Qv{f g:Int->Bool}(h:∀d,OI d=true->f d=g d):nf f=nf g:=Qw (zh f) fun d=>by
 rw[JX];grind
theorem TG{l:List PSpan}(h:NrmS l):l=nf (memB l):=Qw h fun d=>by
 cases q:memB l d with
 |false=>simp_all
 |true=>
  obtain⟨s,h1,h2,h3⟩:=jc.1 q;have:=h.ok s h1;have:OI d=true:=by unfold OI;grind
  simp_all
theorem Dn{α:Type}[Inhabited α]{l:List α}{n:Nat}(h:n<l.length):l.take (n+1)=l.take n++[gD l n]:=by grind[List.take_add_one,gD]
theorem Eh{α:Type}[Inhabited α]{l:List α}{n:Nat}(h:n<l.length):l.drop n=gD l n::l.drop (n+1):=by grind[List.drop_eq_getElem_cons,gD]
theorem td{α:Type}{l:List α}{n m:Nat}{x:α}(h:n<=m):(l.set m x).take n=l.take n:=by
 apply List.ext_getElem?;grind
theorem RK{α:Type}[Inhabited α]{l:List α}{i k:Nat}{x:α}(h:i<l.length):gD (l.set i x) k=if k=i then x else gD l k:=by
 unfold gD List.getD;grind
theorem sq.at{l:List PSpan}(h:sq l){i k:Nat}(hik:i<=k)(hk:k<l.length):(gD l i).from_<=(gD l k).from_:=by
 rcases eT i k with q|q
 ·have:=FZ.1 h i k (by omega) hk q;grind[gD]
 grind
structure MergeI(l cur:List PSpan)(n i:Nat):Prop where
 len:cur.length=l.length
 le:n<=i
 il:i<=l.length
 pos:0<i->0<n
 rest:∀k,i<=k->k<l.length->gD cur k=gD l k
 gap:∀j k,j<k->k<n->(gD cur j).to<(gD cur k).from_
 ok:∀k,k<n->0<=(gD cur k).from_/\(gD cur k).from_<(gD cur k).to/\(gD cur k).to<=1048577
 last:0<n->∀k,i<=k->k<l.length->(gD cur (n-1)).from_<=(gD l k).from_
 mem:∀d,(memB (cur.take n) d||memB (l.drop i) d)=memB l d
theorem MergeI.start(l:List PSpan):MergeI l l 0 0:=⟨rfl,af _,bE _,fun h=>absurd h (wU _),fun _ _ _=>rfl,fun _ _ _ h=>absurd h (qZ _),fun _ h=>absurd h (qZ _),fun h=>absurd h (wU _),fun d=>by simp[memB]⟩
theorem MergeI.copy{l cur:List PSpan}{n i:Nat}(h:MergeI l cur n i)(hi:i<l.length)(hs:sq l)(hok:∀k,k<l.length->0<=(gD l k).from_/\(gD l k).from_<(gD l k).to/\(gD l k).to<=1048577)
  (hn:n=0\/(gD cur (n-1)).to<(gD cur i).from_):MergeI l (cur.set n (gD cur i)) (n+1) (i+1):=by
 rw[h.rest i (af _) hi]at hn ⊢;have hl:=h.le;have hcl:=h.len;have hg:∀k,gD (cur.set n (gD l i)) k=if k=n then gD l i else gD cur k:=fun k=>RK (by omega)
 refine⟨by simp_all,by omega,by omega,fun _=>by omega,fun k h1 h2=>?_,fun j k h1 h2=>?_,fun k h1=>?_,fun _ k h1 h2=>?_,fun d=>?_⟩
 ·grind[cases MergeI]
 ·rw[hg,hg,if_neg (by omega)];by_cases e:k=n
  ·rw[if_pos e];rcases hn with hn|hn
   ·omega
   ·by_cases e2:j=n-1
    ·simp_all
    ·have h3:=h.gap j (n-1) (by omega) (by omega);grind[cases MergeI]
  ·grind[cases MergeI]
 ·rw[hg];by_cases e:k=n
  ·simp_all
  ·grind[cases MergeI]
 ·rw[hg,if_pos (by omega)];exact hs.at (by omega) h2
 ·rw[Dn (by grind),hg,if_pos rfl,td (af _),zA,<-h.mem d,Eh hi,ee,ee,mT];grind
theorem MergeI.join{l cur:List PSpan}{n i:Nat}(h:MergeI l cur n i)(hi:i<l.length)(hs:sq l)(hok:∀k,k<l.length->0<=(gD l k).from_/\(gD l k).from_<(gD l k).to/\(gD l k).to<=1048577)
  (hn:0<n)(hle:(gD cur i).from_<=(gD cur (n-1)).to)(x:Int)(hx:x=Ct (gD cur (n-1)).to (gD cur i).to):MergeI l (cur.set (n-1) ⟨(gD cur (n-1)).from_,x⟩) n (i+1):=by
 rw[h.rest i (af _) hi]at hle;rw[h.rest i (af _) hi,D7]at hx;have hl:=h.le;have hcl:=h.len;have hg:∀k,gD (cur.set (n-1) ⟨(gD cur (n-1)).from_,x⟩) k=if k=n-1 then⟨(gD cur (n-1)).from_,x⟩else gD cur k:=fun k=>RK (by omega)
 have h4:=h.ok (n-1) (by omega);have h5:=hok i hi;have h6:=h.last hn i (af _) hi;refine⟨by simp_all,by omega,by omega,fun _=>hn,fun k h1 h2=>?_,fun j k h1 h2=>?_,fun k h1=>?_,fun _ k h1 h2=>?_,fun d=>?_⟩
 ·grind[cases MergeI]
 ·rw[hg,hg,if_neg (by omega)];by_cases e:k=n-1
  ·grind[cases MergeI]
  ·grind[cases MergeI]
 ·rw[hg];by_cases e:k=n-1
  ·grind
  ·grind[cases MergeI]
 ·grind[cases MergeI]
 ·obtain⟨m,rfl⟩:∃m,n=m+1:=⟨n-1,by omega⟩
  simp only[Nat.add_sub_cancel]at *;rw[Dn (by grind),hg,if_pos rfl,td (af _),zA,<-h.mem d,Eh hi,ee (gD l i),Dn (by omega),zA,ee,ee,mT,Bool.or_false,Bool.or_false];grind
theorem MergeI.nrm{l cur:List PSpan}{n i:Nat}(h:MergeI l cur n i):NrmS (cur.take n):=by
 have hl:=h.le;have hcl:=h.len;have hil:=h.il;have hlen:(cur.take n).length=n:=by grind
 have hg:∀k (hk:k<(cur.take n).length),(cur.take n)[k]=gD cur k:=fun k hk=>by rw[List.getElem_take];unfold gD List.getD;grind
 refine⟨?_,fun s hs=>?_⟩;all_goals grind[List.pairwise_iff_getElem,List.getElem_of_mem,cases MergeI]
theorem MergeI.done{l cur:List PSpan}{n i:Nat}(h:MergeI l cur n i)(hi:l.length<=i)(d:Int):memB (cur.take n) d=memB l d:=by rw[<-h.mem d,BF hi,mT,Bool.or_false]
theorem SU{l l':List PSpan}(hp:l'.Perm (jd l)):∀k,k<l'.length->0<=(gD l' k).from_/\(gD l' k).from_<(gD l' k).to/\(gD l' k).to<=1048577:=fun k hk=>AH (hp.mem_iff.1 (gY hk))
noncomputable def i7(l:List PSpan):List PSpan:=nf (memB l)
theorem Gw{l r:List PSpan}(h:NrmS r)(hm:∀d,memB r d=memB (jd l) d):r=i7 l:=Qw h fun d=>by grind[DV]
theorem Nm{l:List PSpan}(h:jd l=[]):[]=i7 l:=Gw xS fun d=>by grind
theorem JH{zs:List Int}(hs:zs.Pairwise fun a b=>a<=b):(bb zs).Pairwise (fun a b=>a<b)/\∀z,z∈bb zs↔z∈zs:=by
 generalize hd:zs.toArray=d;have hsz:d.size=zs.length:=by grind
 have hx:∀j (hj:j<zs.length),d[j]! =zs[j]:=fun j hj=>by grind
 have mono:∀i j,i<=j->j<zs.length->d[i]!<=d[j]!:=fun i j hij hj=>by
  rcases eT i j with q|q
  ·rw[hx i (by omega),hx j hj];exact FZ.1 hs i j (by omega) hj q
  grind
 have key:∀m,m<=zs.length->(Lib.compactUpTo d m).Pairwise (fun a b=>a<b)/\(∀z,z∈Lib.compactUpTo d m->∃j,j<m/\z=d[j]!)/\∀j,j<m->d[j]!∈Lib.compactUpTo d m:=by
  intro m;induction m with
  |zero=>simp_all[Lib.compactUpTo]
  | succ m ih=>
   intro hm;obtain⟨h1,h2,h3⟩:=ih (by omega);rw[Lib.compactUpTo_succ];cases hk:Lib.keeps d m with
   | true=>
    simp only[if_true];have hk':m=0\/d[m]!≠d[m-1]!:=by grind[Lib.keeps]
    refine⟨List.pairwise_append.2 ⟨h1,by simp,fun a ha b hb=>?_⟩,fun z hz=>?_,fun j hj=>?_⟩
    ·obtain⟨j,hj,rfl⟩:=h2 a ha;have hb:b=d[m]!:=by simp_all
     subst hb;have e1:=mono j (m-1) (by omega) (by omega);have e2:=mono (m-1) m (by omega) (by omega);omega
    all_goals grind
   |false=>
    simp only[fE,if_false,ej];have hk':¬(m=0\/d[m]!≠d[m-1]!):=by grind[Lib.keeps]
    grind
 obtain⟨h1,h2,h3⟩:=key zs.length (af _);have e:bb zs=Lib.compactUpTo d zs.length:=by grind[bb,Lib.compact]
 rw[e];refine⟨h1,fun z=>⟨fun hz=>?_,fun hz=>?_⟩⟩
 ·grind
 ·obtain⟨j,hj,rfl⟩:=BI hz;simp_all
theorem NrmS.at{l:List PSpan}(h:NrmS l){j k:Nat}(hjk:j<k)(hk:k<l.length):(gD l j).to<(gD l k).from_:=by
 have:=FZ.1 h.gap j k (by omega) hk hjk;grind[gD]
theorem NrmS.okAt{l:List PSpan}(h:NrmS l){k:Nat}(hk:k<l.length):0<=(gD l k).from_/\(gD l k).from_<(gD l k).to/\(gD l k).to<=1048577:=h.ok _ (gY hk)
theorem T0{l:List PSpan}{d:Int}:memB l d=true↔∃k,k<l.length/\(gD l k).from_<=d/\d<(gD l k).to:=by
 rw[jc];constructor
 ·rintro⟨s,h1,h2⟩
  obtain⟨k,hk,e⟩:=BI h1;have:gD l k=s:=by grind[gD]
  grind
 grind[gY]
theorem DJ {a b:Int}:ab (gm a b) 0=true↔a=b:=by
 unfold gm;cases h:au a b with
 | true => have:=ap h;constructor
           ·intro h;cases h
           omega
 |false=>
  have:=aB h;cases h2:au b a with
  | true => have:=ap h2;constructor
            ·intro h;cases h
            omega
  |false=>have:=aB h2;exact⟨fun _=>by omega,fun _=>rfl⟩
theorem TT{l:List PSpan}(h:NrmS l)(d:Int):ii l d=memB l d:=by
 have hi:=AG (d:=d) h.sort;have hc:=Es l d;rw[Df,T0];unfold ii Jw;simp only[tK,bq];constructor
 ·rintro(⟨h1,h2⟩|⟨h1,h2⟩)
  ·have h1:=ap h1;simp only[aL]at h1;have h2:=DJ.1 h2;have:=h.okAt (k:=n9 l d) (by omega);grind
  ·have h1:=ap h1;have h2:=ap h2;simp only[aL]at h1;have h3:=ap ((hi (n9 l d-1) (by omega)).2 (by omega));grind
 ·rintro⟨k,hk,h1,h2⟩
  by_cases e:(gD l k).from_=d
  ·left;have e1:¬k<n9 l d:=fun q=>by have:=ap ((hi k hk).2 q);omega
   have e2:¬n9 l d<k:=fun q=>by
    have h3:=h.at q hk;have h4:=h.okAt (k:=n9 l d) (by omega);grind[m0]
   have e3:n9 l d=k:=by omega
   rw[e3];exact⟨m0 (by simp_all),DJ.2 e⟩
  ·right;have e1:k<n9 l d:=(hi k hk).1 (m0 (by omega));have e2:¬k+1<n9 l d:=fun q=>by
    have h3:=h.at (j:=k) (k:=k+1) (by omega) (by omega);have:=ap ((hi (k+1) (by omega)).2 q);omega
   grind[m0]
def ph(l:List PSpan):List Int:=l.flatMap fun s=>[s.from_,s.to]
theorem C9(s:PSpan)(r:List PSpan):ph (s::r)=[s.from_,s.to]++ph r:=by simp[ph]
theorem kc:∀(l:List PSpan),(ph l).length=2*l.length
 |[]=>rfl
 |s::r=>by rw[C9];simp[kc r];omega
theorem Hg{l:List PSpan}{s:PSpan}(h:s∈l):s.from_∈ph l/\s.to∈ph l:=by
 unfold ph;grind
def kX(g:Int->Bool):List Int->List PSpan
 |[]=>[]
 | a::r=>match r with
  |[]=>[]
  |b::_=>match g a with
   |true=>⟨a,b⟩::kX g r
   |false=>kX g r
theorem FN(g:Int->Bool)(a b:Int)(r:List Int):kX g (a::b::r)=match g a with|true=>⟨a,b⟩::kX g (b::r)|false=>kX g (b::r):=by rw[kX]
def sW:Int->List Int->Int
 |a,[]=>a
 |_,b::r=>sW b r
theorem zT:∀{r:List Int}{a:Int},(a::r).Pairwise (fun a b=>a<b)->a<=sW a r/\∀z,z∈r->z<=sW a r
 |[],a,_=>⟨Int.le_refl _,fun z h=>by grind⟩
 |b::r,a,h=>by
  obtain⟨h1,h2⟩:=jE.1 h;have h3:=h1 b (eF ..);obtain⟨k1,k2⟩:=zT h2;grind[sW]
theorem FO{g:Int->Bool}{C:List Int}(hg:∀x y,(∀z,z∈C->z<=x\/y<=z)->∀d,x<=d->d<y->g d=g x):
  ∀(r:List Int)(a:Int),(a::r).Pairwise (fun a b=>a<b)->(∀z,z∈C->z<=a\/z∈r)->∀d,memB (kX g (a::r)) d=(decide (a<=d/\d<sW a r)&&g d)
 |[],a,_,_,d=>by
  have:decide (a<=d/\d<sW a [])=false:=by grind[sW]
  rw[this];rfl
 | b::r,a,hp,hC,d=>by
  obtain⟨h1,h2⟩:=jE.1 hp;have hab:=h1 b (eF ..);obtain⟨hb2,h3⟩:=jE.1 h2;have hl:=(zT h2).1;have ih:=FO hg r b h2 (fun z hz=>by grind) d;have hc:∀d,a<=d->d<b->g d=g a:=hg a b fun z hz=>by grind
  have e0:memB (kX g (a::b::r)) d=((g a&&decide (a<=d/\d<b))||memB (kX g (b::r)) d):=by
   rw[FN];cases g a with
   |true=>rw[ee,Bool.true_and]
   |false=>simp_all
  rw[e0,ih,show sW a (b::r)=sW b r from rfl];grind
def iK(A:List PSpan):List Int:=bb (dG (ph A))
theorem L5(A:List PSpan):(iK A).Pairwise (fun a b=>a<b)/\∀z,z∈iK A↔z∈ph A:=by
 obtain⟨h1,h2⟩:=JH (Ds (ph A));exact⟨h1,fun z=>(h2 z).trans (kM (ph A)).mem_iff⟩
theorem zu{A l:List PSpan}(hl:∀s,s∈l->s∈A){x y:Int}(hz:∀z,z∈iK A->z<=x\/y<=z){d:Int}(h1:x<=d)(h2:d<y):memB l d=memB l x:=by
 have key:∀s,s∈l->((s.from_<=d/\d<s.to)↔(s.from_<=x/\x<s.to)):=fun s hs=>by
  obtain⟨k1,k2⟩:=Hg (hl s hs);grind[L5]
 rw[Df,jc,jc];grind
theorem NQ{op:Bool->Bool->Bool}(h0:op false false=false)(A B:List PSpan)(d:Int):memB (kX (fun d=>op (memB A d) (memB B d)) (iK (A++B))) d=op (memB A d) (memB B d):=by
 obtain⟨h1,h2⟩:=L5 (A++B);have out:∀(z1 z2:Int),(∀z,z∈iK (A++B)->z1<=z/\z<=z2)->¬(z1<=d/\d<z2)->op (memB A d) (memB B d)=false:=fun z1 z2 hz hd=>by
  have no:∀l:List PSpan,(∀s,s∈l->s∈A++B)->memB l d=false:=fun l hl=>by
   cases q:memB l d with
   |false=>rfl
   |true=>
    obtain⟨s,k1,k2,k3⟩:=jc.1 q;obtain⟨k4,k5⟩:=Hg (hl s k1);grind
  simp_all
 cases hC:iK (A++B)with
 |nil=>
  rw[kX,mT];exact(out (d+1) d (fun z hz=>by grind) (by omega)).symm
 | cons a r=>
  rw[hC]at h1;have hl:=zT h1;have hp:=(jE.1 h1).1;rw[FO (C:=iK (A++B)) (fun x y hz d h3 h4=>by
   show op (memB A d) (memB B d)=op (memB A x) (memB B x)
   rw[zu (A:=A++B) (fun s hs=>FQ _ hs) hz h3 h4,zu (A:=A++B) (fun s hs=>BE _ hs) hz h3 h4]) r a h1 (fun z hz=>by
   grind) d]
  by_cases q:a<=d/\d<sW a r;all_goals grind
theorem AA(A:List PSpan):(iK A).length<=2*A.length:=by
 have:=xq (dG (ph A));have h2:=(kM (ph A)).length_eq;grind[kc,iK]
theorem Cj{g:Int->Bool}{C:List Int}{x:Nat}(h1:1<=x)(h2:x<C.length):kX g (C.drop (x-1))=match g (gD C (x-1))with|true=>⟨gD C (x-1),gD C x⟩::kX g (C.drop (x+1-1))|false=>kX g (C.drop (x+1-1)):=by grind[Eh,FN]
theorem lY{g:Int->Bool}{C:List Int}{x:Nat}(h1:1<=x)(h2:C.length<=x):kX g (C.drop (x-1))=[]:=by
 have:(C.drop (x-1)).length<=1:=by simp_all
 match C.drop (x-1),this with
 |[],_=>rfl
 |[_],_=>rfl
 |_::_::_,h=>simp_all
noncomputable def sU(op:Bool->Bool->Bool)(a b:List PSpan):List PSpan:=nf fun d=>op (memB a d) (memB b d)
theorem mo(l:List PSpan):NrmS (i7 l):=zh _
theorem Cp(l:List PSpan)(d:Int):memB (i7 l) d=(OI d&&memB l d):=JX _ d
theorem Oa{op:Bool->Bool->Bool}(h0:op false false=false){a b A B:List PSpan}(hA:i7 a=A)(hB:i7 b=B):i7 (kX (fun d=>op (ii A d) (ii B d)) (iK (A++B)))=sU op a b:=by
 have nA:NrmS A:=hA▸mo a;have nB:NrmS B:=hB▸mo b;have e:(fun d=>op (ii A d) (ii B d))=fun d=>op (memB A d) (memB B d):=funext fun d=>by grind[TT]
 rw[e];unfold i7 sU;refine Qv fun d hd=>?_
 rw[NQ h0,<-hA,<-hB,Cp,Cp,hd,Bool.true_and,Bool.true_and]
section
variable{H:Type}{enc:TypeId×Value->H}{P:Program}{w:World}{base:Nat}{spare:Nat->Bool}{held:Bool}
inductive VL(M:dg):List AV->List Value->Prop
 |nil:VL M [] []
 |cons {x:AV} {v:Value} {xs:List AV} {vs:List Value} (h:VRel (fun _=>none) M x v) (t:VL M xs vs):VL M (x::xs) (v::vs)
theorem VL.append{M:dg}{xs ys:List AV}{a b:List Value}(h:VL M xs a)(k:VL M ys b):VL M (xs++ys) (a++b):=by
 induction h with
 |nil=>grind
 |cons h _ ih=>exact .cons h ih
theorem VL.len{M:dg}{xs:List AV}{a:List Value}(h:VL M xs a):xs.length=a.length:=by
 induction h with
 |nil=>rfl
 |cons _ _ ih=>simp_all
theorem VL.at_{M:dg}{xs:List AV}{a:List Value}(h:VL M xs a):∀(j:Nat)(y:AV),xs[j]?=some y->∃v,a[j]?=some v/\VRel (fun _=>none) M y v:=by
 induction h with
 |nil=>simp_all
 |cons h _ ih=>grind
theorem VL.one{M:dg}{x:AV}{cs:List Value}(h:VL M [x] cs):∃v,cs=[v]/\VRel (fun _=>none) M x v:=by
 cases h with
 |cons h t=>cases t;simp_all
def Wt(P:Program)(t:TypeId)(d:DataW H):Prop:=∀m,m∈d.weights P t->m<=reachBytes
theorem qV{e:TypeId}{d:DataW H}{m:Nat}(hm:m∈d.weights P e):∀{l:List (DataW H)},d∈l->m∈DataW.weightsAll P e l
 |[],h=>by grind
 |a::r,h=>by
  unfold DataW.weightsAll;rcases eu.1 h with rfl|h
  ·simp_all
  ·exact BE _ (qV hm h)
theorem je{t:TypeId}{d:DataW H}{m:Nat}(hm:m∈d.weights P t):∀{ts:List TypeId}{l:List (DataW H)}(i:Nat),ts[i]?=some t->l[i]?=some d->m∈DataW.weightsEach P ts l
 |[],_,i,h,_=>by simp_all
 |_::_,[],i,_,h=>by simp_all
 |u::ts,a::r,i,h1,h2=>by
  unfold DataW.weightsEach;cases i with
  |zero=>simp_all
  |succ i=>exact BE _ (je hm i (by simp_all) (by simp_all))
def Er(P:Program):List Field->Nat->Nat->Bool
 |[],off,n=>Nat.beq off n
 |f::r,off,n=>Nat.beq f.offset off&&Er P r (off+P.cellsOf f.type) n
def VF(M:dg)(P:Program)(cs:List Value):List Field->List (List AV)->Prop
 |[],[]=>True
 |f::fs,xs::xss=>VL M xs ((cs.drop f.offset).take (P.cellsOf f.type))/\VF M P cs fs xss
 |_,_=>False
theorem VF.vl{M:dg}{cs:List Value}:∀{fs:List Field}{xss:List (List AV)}{off:Nat},Er P fs off cs.length=true->VF M P cs fs xss->VL M xss.flatten (cs.drop off)
 |[],[],off,h,_=>by
  have:=pC h;rw[this,List.drop_length];exact .nil
 |[],_::_,_,_,h=>h.elim
 |_::_,[],_,_,h=>h.elim
 |f::fs,xs::xss,off,h,k=>by
  unfold Er at h;rw[bq]at h;have ho:=pC h.1;have h1:=k.1;rw[ho]at h1;have h2:=VF.vl h.2 k.2;have e:cs.drop off=(cs.drop off).take (P.cellsOf f.type)++cs.drop (off+P.cellsOf f.type):=by grind[List.drop_drop,List.take_append_drop]
  rw[List.flatten_cons,e];exact h1.append h2
def TF(enc:TypeId×Value->H)(P:Program)(w:World)(base:Nat)(spare:Nat->Bool)(held:Bool)(n:Nat)(cs:List Value):List Field->Prop
 |[]=>True
 |f::fs=>(∃d p,DataW.trod enc P w base spare held n f.type ((cs.drop f.offset).take (P.cellsOf f.type))=some (d,p)/\Wt P f.type d)/\TF enc P w base spare held n cs fs
theorem WX{n:Nat}{cs:List Value}:∀(fs:List Field),(∀(i:Nat)(f:Field),fs[i]?=some f->∃d p,DataW.trod enc P w base spare held n f.type ((cs.drop f.offset).take (P.cellsOf f.type))=some (d,p)/\Wt P f.type d)->TF enc P w base spare held n cs fs
 |[],_=>trivial
 |f::fs,h=>⟨h 0 f rfl,WX fs fun i g hg=>h (i+1) g (by simp_all)⟩
theorem iM{t:TypeId}{fs:Array Field}{fuel:Nat}{cs:List Value}{d:DataW H}{p:List MemPlace}(hu:P.underlying t=some (.struct fs))(hc:Er P fs.toList 0 (P.cellsOf t)=true)
  (h:DataW.trod enc P w base spare held fuel t cs=some (d,p))(hw:Wt P t d):
  ∃n,fuel=n+1/\TF enc P w base spare held n cs fs.toList/\∀xss,VF (cJ w) P cs fs.toList xss->VL (cJ w) xss.flatten cs:=by
 obtain⟨xs,n,rfl,h1,h2,h3,h4⟩:=DataW.trod_struct hu h;simp only[tJ]at h1;obtain⟨rfl,_⟩:=h1;refine⟨n,rfl,WX _ fun i f hf=>?_,fun xss hx=>?_⟩
 ·have hf':fs[i]?=some f:=by simp_all
  have hi:i<xs.length:=by grind
  have e:=h4 i f hf';rw[ko hi]at e;refine⟨xs[i].1,xs[i].2,e,fun m hm=>hw m ?_⟩;unfold DataW.weights;rw[hu];exact je hm i (by simp_all) (by grind)
 ·have:=VF.vl (off:=0) (by simp_all) hx;simp_all
theorem ge{t:TypeId}{fuel:Nat}{cs:List Value}{d:DataW H}{p:List MemPlace}(hu:P.underlying t=some (.int .i64))(h:DataW.trod enc P w base spare held fuel t cs=some (d,p)):∃x,VL (cJ w) [.int .i64 x] cs:=by
 obtain⟨x,rfl,_⟩:=DataW.trod_int hu h;exact⟨x,.cons (.int _ _) .nil⟩
theorem nO{t:TypeId}{fuel:Nat}{cs:List Value}{d:DataW H}{p:List MemPlace}(hu:P.underlying t=some .string)(h:DataW.trod enc P w base spare held fuel t cs=some (d,p)):∃s,VL (cJ w) [.str s] cs:=by
 obtain⟨⟨⟨s⟩⟩,rfl,_⟩:=DataW.trod_string hu h;exact⟨s,.cons (.str _) .nil⟩
theorem Ld{α:Type}{Q:Nat->α->Prop}:∀(n:Nat),(∀i,i<n->∃x,Q i x)->∃l:List α,l.length=n/\∀i x,l[i]?=some x->Q i x
 |0,_=>⟨[],rfl,fun i x h=>by simp_all⟩
 |n+1,h=>by
  obtain⟨l,h1,h2⟩:=Ld n fun i hi=>h i (by omega)
  obtain⟨y,hy⟩:=h n (by omega);refine⟨l++[y],by simp_all,fun i x hx=>?_⟩;grind
theorem Zm{x:AV}(h:x.cells.all cL=true):Sc x:=fun y hy=>mq.1 h y hy
theorem IB{α:Type}(el:α->AV)(fit:α->Prop){t e:TypeId}{fuel:Nat}{cs:List Value}{d:DataW H}{p:List MemPlace}(hu:P.underlying t=some (.slice e))(hsz:Nat.blt 0 (P.cellsOf e)=true)(hby:Nat.blt 0 (P.bytesOf e)=true)
  (hel:∀x,(el x).cells.length=P.cellsOf e)(hsc:∀x,(el x).cells.all cL=true)(htop:∀x,(el x).top=0)
  (hrec:∀m,m<fuel->∀cs d p,DataW.trod enc P w base spare held m e cs=some (d,p)->Wt P e d->∃x,fit x/\VL (cJ w) (el x).cells cs)
  (h:DataW.trod enc P w base spare held fuel t cs=some (d,p))(hw:Wt P t d):
  ∃l:List α,l.length<2^47/\(∀x,x∈l->fit x)/\VL (cJ w) [.ls (l.map el)] cs:=by
 rw[dh]at hsz hby;simp only[decide_eq_true_eq]at hsz hby;rcases DataW.trod_slice hu h with⟨rfl,_⟩|⟨a,len,cap,elems,rest,n,rfl,rfl,h1,h2,h3,h4,h5,h6,_,_⟩
 ·exact⟨[],Nat.two_pow_pos 47,fun x h=>absurd h (List.not_mem_nil),.cons .lsn .nil⟩
 ·simp only[tJ]at h1;obtain⟨rfl,_⟩:=h1;have hwl:len<2^47:=by
   have:=hw ((elems.length+rest.length)*P.bytesOf e) (by grind[DataW.weights]);have h7:elems.length<=(elems.length+rest.length)*P.bytesOf e:=bH (Nat.le_add_right _ _) (Nat.le_mul_of_pos_right _ hby);have:elems.length<=reachBytes:=bH h7 this;rw[h5]at this;exact nl this (by decide)
  have el0:∀i,i<len->∃x,fit x/\∃cs:List Value,cs.length=P.cellsOf e/\(∀j,j<P.cellsOf e->w.cell? ((a.add (i*P.cellsOf e)).add j)=cs[j]?)/\VL (cJ w) (el x).cells cs:=by
   intro i hi;have k5:=h6 i hi;have hi':i<elems.length:=by omega
   rw[ko hi']at k5;simp only[Option.bind_eq_some_iff]at k5;obtain⟨cs,c1,c2⟩:=k5;obtain⟨z1,z2⟩:=DU c1;obtain⟨x,f1,f2⟩:=hrec n (by omega) cs elems[i].1 elems[i].2 c2 (fun m hm=>hw m (by
    unfold DataW.weights;rw[hu];exact eG _ (FQ _ (qV hm (iS.2 ⟨elems[i],De hi',rfl⟩)))))
   grind
  obtain⟨l,q1,q2⟩:=Ld len el0;refine⟨l,by omega,fun x hx=>?_,.cons ?_ .nil⟩
  ·obtain⟨i,hi⟩:=FV.1 hx;grind
  ·have q1':(l.map el).length=len:=by simp_all
   generalize hys:l.map el=ys at *;have q3:∀i y,ys[i]?=some y->∃cs:List Value,cs.length=P.cellsOf e/\(∀j,j<P.cellsOf e->w.cell? ((a.add (i*P.cellsOf e)).add j)=cs[j]?)/\VL (cJ w) y.cells cs:=by grind
   have q4:∀y,y∈ys->y.cells.length=P.cellsOf e/\Sc y:=by grind[Zm]
   have q5:aq ys=0:=by grind[aX]
   have addadd:∀i j:Nat,a.spot=none->(a.add i).add j=⟨a.block,a.off+i+j,none⟩:=by
    intro i j hs;obtain⟨blk,off,spot⟩:=a;grind[Addr.add]
   have spot:ys≠[]->a.spot=none:=by
    intro hne;obtain⟨x,hx⟩:∃x,ys[0]?=some x:=by
     cases ys with
     |nil=>simp_all
     |cons x r=>exact⟨x,rfl⟩
    grind[rm,Addr.add]
   have cell:∀(i j:Nat)(x:AV),ys[i]?=some x->j<P.cellsOf e->∃c v,cJ w a.block=some c/\c[a.off+i*P.cellsOf e+j]?=some v/\∀y,x.cells[j]?=some y->VRel (fun _=>none) (cJ w) y v:=by
    intro i j x hx hj;obtain⟨cs,c1,c2,c3⟩:=q3 i x hx;have:=c2 j hj;rw[ko (by omega),addadd _ _ (spot (by grind))]at this;obtain⟨_,c,m1,m2⟩:=rm this;refine⟨c,_,m1,m2,fun y hy=>?_⟩;obtain⟨v,g1,g2⟩:=c3.at_ j y hy;simp_all
   refine .lsp ?_ q5;by_cases hne:ys=[]
   ·subst hne;simp at q1';subst q1';exact .ps (sz:=P.cellsOf e) (c:=#[]) (by simp) (fun h=>by grind) (fun h=>absurd rfl h) (fun x h=>by simp_all) (fun i x j y h=>by simp_all)
   ·have hlen:0<ys.length:=qW.2 hne;obtain⟨x0,hx0⟩:∃x,ys[ys.length-1]?=some x:=⟨ys[ys.length-1],by simp⟩
    obtain⟨c,v0,m1,m2,_⟩:=cell (ys.length-1) (P.cellsOf e-1) x0 hx0 (by omega);have hc:=(rL.1 m2).1;have hfit:a.off+ys.length*P.cellsOf e<=c.size:=by
     have h1:(ys.length-1)*P.cellsOf e+P.cellsOf e=ys.length*P.cellsOf e:=by rw[<-qK];grind
     omega
    have:=VRel.ps (pl:=fun _=>none) (M:=cJ w) (xs:=ys) (tight:=false) (a:=a) (cap:=cap) (sz:=P.cellsOf e) (c:=c) (by omega) (fun h=>by grind) (fun _=>⟨spot hne,m1,hfit,hsz⟩) q4
     (fun i x j y hx hy=>by
      obtain⟨r1,_⟩:=q4 x (bh hx);have hj:j<P.cellsOf e:=by grind
      obtain⟨c',v,n1,n2,n3⟩:=cell i j x hx hj;simp_all)
    simp_all
theorem lf{α:Type}(el:α->AV)(fit:α->Prop){t e:TypeId}{fuel:Nat}{cs:List Value}{d:DataW H}{p:List MemPlace}(hu:P.underlying t=some (.slice e))(hsz:Nat.blt 0 (P.cellsOf e)=true)(hby:Nat.blt 0 (P.bytesOf e)=true)
  (hel:∀x,(el x).cells.length=P.cellsOf e)(hsc:∀x,(el x).cells.all cL=true)(htop:∀x,(el x).top=0)
  (hrec:∀m,m<fuel->∀cs d p,DataW.trod enc P w base spare held m e cs=some (d,p)->Wt P e d->∃x,fit x/\VL (cJ w) (el x).cells cs)
  (h:DataW.trod enc P w base spare held fuel t cs=some (d,p))(hw:Wt P t d):
  ∃l:List α,l.length<2^60/\(∀x,x∈l->fit x)/\VL (cJ w) [.ls (l.map el)] cs:=by
 have⟨l,h1,h2⟩:=IB el fit hu hsz hby hel hsc htop hrec h hw;grind
end
structure PPair where
 a:Int
 b:Int
deriving Inhabited,DecidableEq
def fq(p:PPair):AV:=.agg [.int .i64 p.a,.int .i64 p.b]
theorem V3(p:PPair):(fq p).top=0:=rfl
structure PRef where
 act:Int
 item:Int
deriving Inhabited,DecidableEq
def jz(p:PRef):AV:=.agg [.int .i64 p.act,.int .i64 p.item]
theorem XB(p:PRef):(jz p).top=0:=rfl
def nr(u:TUnit):List PWord:=u.head++u.words
mutual
def ny:TUnit->List PWord
 |⟨_,_,_,_,_,h,w,ks⟩=>(h++w)++kG ks
def kG:List TUnit->List PWord
 |[]=>[]
 |k::r=>ny k++kG r
end
theorem MU(u:TUnit):ny u=nr u++kG u.kids:=by obtain⟨a,b,c,d,e,h,w,ks⟩:=u;rw[ny];rfl
theorem Dc:kG []=[]:=by rw[kG]
theorem s8(k:TUnit)(r:List TUnit):kG (k::r)=ny k++kG r:=by rw[kG]
def aag(k:Int)(m:List (Int×Int)):Int:=(gh k m).getD 0
def aae(m:List (Int×Int))(w:PWord):List (Int×Int):=jv w.act (aag w.act m+1) m
def tally(ws:List PWord)(m:List (Int×Int)):List (Int×Int):=ws.foldl aae m
def rH(m:List (Int×Int)):Prop:=(m.map (·.1)).Nodup
theorem oc{k:Int}:∀{m:List (Int×Int)},gh k m=none->¬k∈m.map (·.1)
 |[],_=>by simp
 | (i,x)::r,h=>by
  simp only[gh]at h;cases e:ab k i with
  |true=>grind
  |false=>
   rw[e]at h;have:=oc h;grind[Hc]
theorem Cz(j v:Int):∀(m:List (Int×Int)),(jv j v m).map (·.1)=if j∈m.map (·.1)then m.map (·.1)else m.map (·.1)++[j]
 |[]=>by simp[jv]
 | (i,x)::r=>by
  simp only[jv];by_cases h:j=i
  ·grind[bz]
  ·have e:ab j i=false:=by grind[nH]
   simp only[e,eb,Cz j v r,eu,h,false_or];grind
theorem rH.set{m:List (Int×Int)}(h:rH m)(j v:Int):rH (jv j v m):=by grind[rH,Cz]
theorem rH.tally:∀(ws:List PWord){m:List (Int×Int)},rH m->rH (tally ws m)
 |[],_,h=>h
 |w::r,_,h=>rH.tally r (h.set _ _)
theorem rH.nil:rH []:=List.nodup_nil
def OB(l:List PPair):Prop:=l.Pairwise (fun x y=>x.a<y.a)
theorem OB.unique:∀{l m:List PPair},OB l->OB m->(∀p,p∈l↔p∈m)->l=m
 |[],[],_,_,_=>rfl
 |[],y::m,_,_,h=>absurd ((h y).2 (eF ..)) (by simp)
 |x::l,[],_,_,h=>absurd ((h x).1 (eF ..)) (by simp)
 |x::l,y::m,hl,hm,h=>by
  have hl':=jE.1 hl;have hm':=jE.1 hm;have e:x=y:=by grind
  subst e;congr 1;refine OB.unique hl'.2 hm'.2 fun p=>?_
  grind
def pQ(p:Int×Int):PPair:=⟨p.1,p.2⟩
def lV(ws:List PWord):List PPair:=((tally ws []).map pQ).mergeSort fun x y=>decide (x.a<=y.a)
theorem wA{m:List (Int×Int)}(h:rH m):(m.map pQ).Pairwise (fun x y=>x.a≠y.a):=by
 unfold rH at h;rw[List.nodup_iff_pairwise_ne,List.pairwise_map]at h;rw[List.pairwise_map];exact h
theorem K6{l:List PPair}(h1:l.Pairwise (fun x y=>x.a<=y.a))(h2:l.Pairwise (fun x y=>x.a≠y.a)):OB l:=(h1.and h2).imp fun{x y} h=>by omega
theorem LZ{l m:List PPair}(h:l.Perm m)(hm:m.Pairwise (fun x y=>x.a≠y.a)):l.Pairwise (fun x y=>x.a≠y.a):=(h.pairwise_iff (fun{x y} h e=>h e.symm)).2 hm
theorem FG(ws:List PWord):OB (lV ws):=by
 refine K6 ?_ (LZ (List.mergeSort_perm ..) (wA (rH.tally ws rH.nil)));have:=List.pairwise_mergeSort (le:=fun(x y:PPair)=>decide (x.a<=y.a)) (fun a b c h1 h2=>by grind) (fun a b=>by grind) ((tally ws []).map pQ);exact this.imp fun{x y} h=>by simp_all
theorem wg{ws:List PWord}{l m:List PPair}(h:l.Perm m)(hm:m.Perm ((tally ws []).map pQ))(hs:l.Pairwise (fun x y=>x.a<=y.a)):l=lV ws:=
 (K6 hs (LZ (h.trans hm) (wA (rH.tally ws rH.nil)))).unique (FG ws) fun p=>by grind[lV,List.mergeSort_perm]
theorem qm:∀(n:Nat)(s:List Nat),s.Nodup->(∀i,i∈s->i<n)->s.length<=n
 |0,s,_,h=>by
  cases s with
  |nil=>simp_all
  |cons x r=>grind[List.mem_cons_self]
 |n+1,s,hs,h=>by
  have h1:=qm n (s.erase n) (hs.erase n) fun i hi=>by grind
  grind
theorem Sp{n:Nat}{s:List Nat}(hs:s.Nodup)(h:∀i,i∈s->i<n)(hd:∀i,i<n->i∈s):s.Perm (List.range n):=(List.perm_ext_iff_of_nodup hs List.nodup_range).2 fun i=>⟨fun hi=>List.mem_range.2 (h i hi),fun hi=>hd i (List.mem_range.1 hi)⟩
theorem NU{α:Type}[Inhabited α](l:List α):(List.range l.length).map (gD l)=l:=by
 refine List.ext_getElem (by simp) fun i h1 h2=>?_
 grind[gD]
theorem zf{s:List Nat}{i:Nat}(h:s.Nodup)(hi:¬i∈s):(s++[i]).Nodup:=by grind
section
variable{u w':TUnit}{ws:List PWord}{w:PWord}{r:List PWord}{ks:List TUnit}{m x:List (Int×Int)}{c B:Int}
end
theorem VRel.ls0{pl:Pl}{M:dg}{x:Value}(h:VRel pl M (.ls []) x):VRel pl M .nils x\/VRel pl M (.ps [] false) x:=by
 cases h with
 |lsn=>exact .inl .nils
 |lsp h _=>simp_all
theorem E4{P:Program}{G:eh}{f:FuncId}{a b c:List AV}{h:AHeap}{Ψ:AV->AHeap->Prop}(hs:∀pl M vs,VRels pl M c vs->VRels pl M a vs\/VRels pl M b vs)(h1:aF P G f a h Ψ)(h2:aF P G f b h Ψ):aF P G f c h Ψ:=fun pl M w vs hg hr hv=>(hs pl M vs hv).elim (h1 pl M w vs hg hr) (h2 pl M w vs hg hr)
theorem VRels.first{pl:Pl}{M:dg}{x y z:AV}{r:List AV}{vs:Array Value}(h:VRels pl M (z::r) vs)(hs:∀v,VRel pl M z v->VRel pl M x v\/VRel pl M y v):VRels pl M (x::r) vs\/VRels pl M (y::r) vs:=by
 obtain⟨h1,h2⟩:=h;have lift:∀u,VRel pl M u (vs.getD 0 undef)->VRels pl M (u::r) vs:=fun u hu=>⟨h1,fun j y hj=>by
  cases j with
  |zero=>grind
  |succ j=>simp_all⟩
 exact(hs _ (h2 0 z rfl)).imp (lift x) (lift y)
end Go.Ev
namespace Go.Ev
open Go
theorem aD{n b m:Nat}(h1:n<=m)(h2:m<=2^40)(h3:m*b<=2^40):small n b=true:=by
 unfold small;have h4:n*b<=m*b:=ef b h1;grind[Nat.ble_eq_true_of_le]
def lq(p q:PPair):Int:=bif au p.a q.a then -1 else 1
theorem zw(p q:PPair):decide (lq p q<0)=au p.a q.a:=by
 unfold lq;grind
theorem IE{ws:List PWord}{M:List (Int×Int)}{l' out:List PPair}{seen:List Nat}(hM:tally ws []=M)(h1:l'.Perm out)(h2:l'.Pairwise fun x y=>x.a<=y.a)
  (h3:out=seen.map fun i=>pQ (gD M i))(hn:seen.Nodup)(hb:∀i,i∈seen->i<M.length)(hd:∀i,i<M.length->i∈seen):l'=lV ws:=by
 subst hM;refine wg h1 ?_ h2;have h4:=(Sp hn hb hd).map fun i=>pQ (gD (tally ws []) i)
 rw[h3];refine h4.trans (.of_eq ?_);have:=congrArg (List.map pQ) (NU (tally ws []));rw[List.map_map]at this;exact this
theorem FH{ws:List PWord}{M:List (Int×Int)}(hM:tally ws []=M)(hd:∀i,i<M.length->i∈([]:List Nat)):lV ws=[]:=by
 have e:M=[]:=by
  cases M with
  |nil=>rfl
  |cons x r=>exact absurd (hd 0 (Nat.zero_lt_succ _)) (by simp)
 simp_all[lV]
theorem Pr{seen:List Nat}{i n:Nat}(hn:seen.Nodup)(hb:∀i,i∈seen->i<n)(hi:i<n)(hs:¬i∈seen):seen.length<n:=by
 have:=qm n (seen++[i]) (zf hn hs) (fun j hj=>by grind);grind
def YF(d:Int):List Int->List Int
 |[]=>[d]
 |x::r=>bif au x d then x::YF d r else bif ab x d then x::r else d::x::r
def eg(ws:List PWord)(l:List Int):List Int:=ws.foldl (fun l w=>YF w.act l) l
def Tw{α:Type}:Result α->World
 | .ok _ w=>w
 | .halt _ w=>w
def gW:GStep->World
 | .go _ w _=>w
 | .comm _ _ _ _ w _=>w
 | .spawn _ _ w _=>w
 | .count _ w _=>w
 | .timer _ _ w _=>w
 | .alone _ _ w _=>w
 | .newcoro _ _ _ w _=>w
 | .coroswitch _ _ _ w _=>w
 | .collect _ w _=>w
 | .watch _ w _=>w
 | .ended _ w _=>w
theorem lD(es:Array Event)(g:GStep):gW (GStep.after es g)=gW g:=by cases g<;>rfl
theorem JR{α:Type}:∀(q:Ask α)(w:World),w.drawn<=(w.ask q).2.drawn
 | .done a,w=>af _
 | .ask what range k,w=>by
  rw[World.ask];split
  ·exact JR (k 0) w
  ·exact bH (np _) (JR _ {w with drawn:=w.drawn+1})
theorem Pw(w:World)(c:Sys):w.drawn<=(w.sys c).2.drawn:=by
 unfold World.sys;have h:=JR (Kernel.perform c w.os) w;grind
theorem xg{p:Program}{w w':World}{at_:Addr}{u:TypeId}{k:Addr}{v:Value}{b:Bool}{l:List Addr}(h:w.viewStore p at_ u k v b=.ok (w',l)):w'.drawn=w.drawn:=by
 unfold World.viewStore at h;simp only[bind,Except.bind,pure,Except.pure]at h
 repeat' split at h
 all_goals first|cases h;done|(injection h with h;injection h with h1 h2;rw[<-h1])
theorem Ae{p:Program}{w w':World}{a:Addr}{v:Value}{b:Bool}{l:List Addr}(h:w.farStore p a v b=.ok (w',l)):w'.drawn=w.drawn:=by
 unfold World.farStore at h
 repeat' split at h
 all_goals first|cases h;done|grind[xg]
theorem Ej(w:World)(a:Addr)(n:Nat):(w.freeze a n).drawn=w.drawn:=by unfold World.freeze;grind
theorem Pt(p:Program){α:Type}(s:Sem α):∀(w:World),w.drawn<=(Tw (s.run p w)).drawn:=by
 induction s with
 |pure a=>exact fun w=>af _
 |load m a k ih=>
  intro w;simp only[Sem.run]
  repeat' split
  all_goals first|exact ih _ _|exact af _
 | store m a v k ih=>
  intro w;cases v
  all_goals simp only[Sem.run]
  all_goals first
   |exact af _
   |((repeat' split);all_goals first|exact af _|exact ih (w.setCell _ _)|(rename_i e;refine bH ?_ (ih _);rw[Ae e];exact af _))
 |new o k ih=>grind[Sem.run]
 |shape r k ih=>grind[Sem.run]
 |freeze a n k ih=>intro w;simp only[Sem.run];refine bH ?_ (ih _);simp_all[Ej]
 |frozen a k ih=>grind[Sem.run]
 |getObj r k ih=>
  intro w;simp only[Sem.run]
  repeat' split
  all_goals first|exact ih _ _|exact af _
 |setObj r o k ih=>
  intro w;simp only[Sem.run]
  repeat' split
  all_goals first|exact ih {w with heap:=w.heap.setIfInBounds r o}|exact af _
 |choose q k ih=>
  intro w;simp only[Sem.run];grind
 |sys c k ih=>grind[Sem.run,Pw]
 |program k ih=>grind[Sem.run]
 |mark m k ih=>grind[Sem.run]
 |halt h=>exact fun w=>af _
theorem cF{p:Program}{α:Type}{s:Sem α}{w:World}{r:Result α}(h:s.run p w=r):w.drawn<=(Tw r).drawn:=h▸Pt p s w
theorem Tx{p:Program}{α:Type}{s:Sem α}{w:World}{es es':Array Event}{r:Result α}(h:s.runT p w es=(r,es')):w.drawn<=(Tw r).drawn:=by
 have:=Sem.runT_fst p s w es;rw[h]at this;exact cF this.symm
theorem JB(w:World)(fd:Nat)(text:ByteArray)(o:Outcome):w.drawn<=(gW (endWith w fd text o)).drawn:=by
 unfold endWith;simp only[];have h:=Pw w (.write fd text);split;all_goals (rename_i e;rw[e]at h)
 all_goals repeat' split
 all_goals exact h
theorem xJ(fr:Frame)(m:String)(w:World):w.drawn<=(gW (endThrow fr m w)).drawn:=af _
theorem qM(p:Program)(fr:Frame)(v:Value)(w:World):w.drawn<=(gW (endPrinting p fr v w)).drawn:=by
 unfold endPrinting;simp only[]
 repeat' split
 all_goals exact af _
theorem xK(p:Program)(fr:Frame)(cs:List Frame)(d:Option Dying)(m:String)(w:World):w.drawn<=(gW (endFatal p fr cs d m w)).drawn:=by
 unfold endFatal;simp only[];split;all_goals (rename_i e;exact cF e)
theorem Ik(p:Program)(fr:Frame)(d:Dying)(f:Fatal)(w:World):w.drawn<=(gW (writeOn p fr d f w)).drawn:=by
 unfold writeOn;split
 ·exact af _
 ·simp only[];split;all_goals (rename_i e;exact Tx e)
theorem XG(p:Program)(fr:Frame)(d:Dying)(w:World):w.drawn<=(gW (die p fr d w)).drawn:=by
 unfold die;split
 ·grind[Ik]
 ·split
  ·split
   ·exact af _
   grind[JB]
  ·simp only[];split
   ·exact af _
   ·split;all_goals (rename_i e;exact cF e)
   ·rw[lD];split;all_goals first|(rename_i e;exact cF ((Sem.runT_fst ..).symm.trans e))|skip
    ·rename_i e;exact bH (cF ((Sem.runT_fst ..).symm.trans e)) (qM ..)
    ·exact af _
   ·exact af _
theorem qO(p:Program)(main:Bool)(fr:Frame)(cs:List Frame)(d:Option Dying)(v:Value)(w:World):w.drawn<=(gW (doReturn p main fr cs d v w)).drawn:=by
 unfold doReturn
 repeat' split
 all_goals exact af _
theorem sN{c:Prop}[Decidable c]{a b:GStep}{n:Nat}(h1:n<=(gW a).drawn)(h2:n<=(gW b).drawn):n<=(gW (if c then a else b)).drawn:=by grind
theorem xr(p:Program)(fr:Frame)(cs:List Frame)(dy:Option Dying)(d:Deferred)(w:World):w.drawn<=(gW (callDeferred p fr cs dy d w)).drawn:=by
 unfold callDeferred;refine sN ?_ ?_
 ·exact af _
 ·simp only[];rw[lD];split;all_goals (rename_i e;have h:=cF ((Sem.runT_fst ..).symm.trans e))
  all_goals first|exact h|exact bH h (xK ..)|((repeat' split)<;>exact h)
theorem MF(p:Program)(main:Bool)(fr:Frame)(cs:List Frame)(dy:Option Dying)(w:World):w.drawn<=(gW (unwind p main fr cs dy w)).drawn:=by
 unfold unwind;split
 ·simp only[];rw[lD];split;all_goals (rename_i e;exact cF ((Sem.runT_fst ..).symm.trans e))
 ·grind[xr]
 ·split
  ·exact af _
  ·split
   ·exact af _
   ·split
    ·exact af _
    ·split
     ·split
      ·exact af _
      ·split;all_goals (rename_i e;exact cF e)
     ·split
      ·grind[qM]
      ·exact af _
  ·split
   ·grind[qO]
   ·simp only[];rw[lD];split;all_goals (rename_i e;have h:=cF ((Sem.runT_fst ..).symm.trans e))
    all_goals first|exact h|exact bH h (qO ..)
theorem RF(p:Program)(fr:Frame)(cs:List Frame)(dy:Option Dying)(g:Nat)(w:World):w.drawn<=(gW (early p fr cs dy g w)).drawn:=by
 unfold early;simp only[]
 repeat' split
 all_goals first|exact af _|(rename_i e;exact cF e)|(rename_i e _;exact cF e)|(rename_i e _ _;exact cF e)|(rename_i e _ _ _ _;exact cF e)
theorem uO(p:Program)(listen:Bool)(fr:Frame)(cs:List Frame)(dy:Option Dying)(s:Sem Next)(w:World):w.drawn<=(gW (stepG.apply p listen fr cs dy s w)).drawn:=by
 unfold stepG.apply;simp only[];rw[lD];have h0:w.drawn<=(Tw (if listen=true then Sem.runT p s w #[]else(Sem.run p s w,#[])).fst).drawn:=by
  cases listen
  ·grind[Pt]
  ·exact cF (Sem.runT_fst ..).symm
 generalize (if listen=true then Sem.runT p s w #[]else(Sem.run p s w,#[])).fst=r at h0 ⊢;split;all_goals first|exact h0|exact bH h0 (xK ..)|exact bH h0 (RF ..)|exact bH h0 (xJ ..)|skip
 all_goals repeat' split
 all_goals first|exact h0|exact bH h0 (xJ ..)|skip
theorem Tu(p:Program)(listen:Bool)(fr:Frame)(cs:List Frame)(dy:Option Dying)(w:World):w.drawn<=(gW (stepG.oper p listen fr cs dy w)).drawn:=by
 unfold stepG.oper;split
 ·exact af _
 ·split;all_goals exact uO ..
theorem UI(p:Program)(main listen:Bool)(fr:Frame)(cs:List Frame)(dy:Option Dying)(w:World):w.drawn<=(gW (stepG.exec p main listen fr cs dy w)).drawn:=by
 have lv:∀(l:Nat)(jump:Option Code),w.drawn<=(gW (GStep.after (seen p fr.fn ((Instr.endRound l jump).runT p w #[]).snd) (match((Instr.endRound l jump).runT p w #[]).fst with| .ok v w=>doReturn p main fr cs dy v w| .halt _ w=>.ended (.stuck "range over a function: no such loop" (fr.pos p)) w))).drawn :=by
  intro l jump;rw[lD];have h0:=cF (Sem.runT_fst p (Instr.endRound l jump) w #[]).symm;split;all_goals (rename_i e;rw[e]at h0)
  ·exact bH h0 (qO ..)
  ·exact h0
 unfold stepG.exec;simp only[];split;all_goals first|exact af _|exact uO .. |skip
 ·split
  ·exact sN (af _) (af _)
  grind
 ·split
  ·exact sN (af _) (af _)
  grind
 ·split<;>exact af _
 ·rename_i id k _;cases exitTo id k with
  |none=>simp only[Option.elim];split;exact sN (af _) (af _);grind
  |some k'=>exact af _
 ·rename_i id k _;cases gotoIn id k with
  |none=>simp only[Option.elim];split;exact sN (af _) (af _);grind
  |some k'=>exact af _
 ·rw[lD];split
  ·rename_i e;exact bH (cF ((Sem.runT_fst ..).symm.trans e)) (uO ..)
  ·rename_i e;exact cF ((Sem.runT_fst ..).symm.trans e)
 ·rw[lD];split<;>rename_i e<;>exact cF ((Sem.runT_fst ..).symm.trans e)
 ·rename_i row _ _ _;cases Extern.next row with
  |none=>exact af _
  |some e=>grind[uO]
 ·refine sN (af _) ?_;split<;>rename_i e<;>exact cF e
 ·exact sN (Tu ..) (af _)
theorem Pa(p:Program)(main listen:Bool)(g:Goroutine)(w:World):w.drawn<=(gW (stepG p main g w listen)).drawn:=by
 unfold stepG;grind[XG,UI,MF]
def sD(n:Nat):Stepped->Prop
 | .next m=>n<=m.world.drawn
 | .ended _ _=>True
theorem sD.trans{n k:Nat}{s:Stepped}(h:n<=k)(g:sD k s):sD n s:=by
 cases s with
 |next m=>exact bH h g
 |ended o w=>trivial
theorem QB{c:Prop}[Decidable c]{a b:Stepped}{n:Nat}(h1:sD n a)(h2:sD n b):sD n (if c then a else b):=by grind
theorem Lb(p:Program)(gs:Array Goroutine)(rest:Rest)(w:World):sD w.drawn (look p gs rest w):=by
 unfold look;simp only[];split
 ·refine QB trivial ?_;split
  ·trivial
  ·split<;>rename_i e<;>first|exact cF e|trivial
 ·trivial
theorem xf{rest:Rest}{cases:Array CommCase}{w w':World}(h:waitingAt rest cases w=some w'):w'.drawn=w.drawn:=by
 unfold waitingAt at h
 repeat' split at h
 all_goals first|(cases h;done)|(cases h;rfl)
theorem EJ{c:Prop}[Decidable c]{a b:Stepped×Array MemOp}{n:Nat}(h1:sD n a.1)(h2:sD n b.1):sD n (if c then a else b).1:=by grind
theorem AF(p:Program)(rest:Rest)(gs:Array Goroutine)(i:Nat)(g:Goroutine)(cs:Array CommCase)(bl:Bool)(sh:CommShape)(w:World):sD w.drawn (communicate p rest gs i g cs bl sh w).1:=by
 unfold communicate;simp only[];refine EJ trivial (EJ (EJ ?_ (af _)) ?_)
 ·split
  ·rename_i e;exact wY (xf e).symm
  ·trivial
 ·split
  ·trivial
  ·rename_i w1 e;have h:w.drawn<=w1.drawn:=cF e;clear e;split
   ·split
    ·rename_i e;exact bH h (cF e)
    ·trivial
   ·exact h
   ·exact h
   ·split
    ·exact h
    ·split
     ·rename_i e;exact bH h (cF e)
     ·trivial
   ·exact h
   ·exact h
   ·trivial
theorem Po(p:Program)(m:Machine)(k:Nat):sD m.world.drawn (serve p m k):=by
 unfold serve;split
 ·trivial
 ·exact af _
 ·simp only[];split
  ·trivial
  ·exact af _
theorem Bx{m m':Machine}{op:TimerOp}{v:Value}(h:timerOp m op=.ok (v,m')):m'.world.drawn=m.world.drawn:=by
 have rt:∀(m:Machine)(k:Nat)(t:Timer)(a b:Nat),(retime m k t a b).2.world.drawn=m.world.drawn:=by
  intro m k t a b;unfold retime drain;grind
 cases op with
 |new t=>
  simp only[timerOp]at h
  repeat' split at h
  all_goals first|(cases h;done)|(cases h;rfl)
 |stop var=>
  simp only[timerOp,timerOp.named]at h;grind
 | reset var a b=>
  simp only[timerOp,timerOp.named,timerOp.opened]at h;split at h
  ·rename_i e;have e2:∀m2:Machine,(if waitedFor m var=true then match Kernel.withPoller m.world.os with| .ok os=>some {m with world:={m.world with os}}| .error _=>none else some m)=some m2->m2.world.drawn=m.world.drawn:=by
    intro m2 e
    repeat' split at e
    all_goals first|(cases e;done)|(cases e;rfl)
   grind
  ·grind
 |deadline a b c d=>simp only[timerOp]at h;cases h;rfl
theorem Tz(p:Program)(m:Machine)(i:Nat)(b:Bool):sD m.world.drawn (runT p m i b).1:=by
 unfold runT;simp only[];have h:=Pa p (i==0) b (m.gs.swapAt! i {(default:Goroutine)with status:=.finished}).1 m.world;generalize stepG p (i==0) (m.gs.swapAt! i {(default:Goroutine)with status:=.finished}).1 m.world b=s at h ⊢;cases s
 all_goals simp only[]
 all_goals try exact h
 all_goals try trivial
 ·exact sD.trans h (AF ..)
 ·exact QB trivial h
 ·split
  ·rename_i e;exact bH h (wY (Bx e).symm)
  ·split
   ·rename_i e;cases e;exact h
   ·trivial
  ·trivial
  ·trivial
 ·split
  ·exact h
  ·split
   ·rename_i e;cases e;exact h
   ·trivial
  ·trivial
 ·exact sD.trans h (Lb ..)
def OG(n:Nat):Move->Prop
 | .goroutine m _=>n<=m.world.drawn
 | .machine s _=>sD n s
theorem OG.trans{n k:Nat}{s:Move}(h:n<=k)(g:OG k s):OG n s:=by
 cases s with
 |goroutine m i=>exact bH h g
 |machine s o=>exact sD.trans h g
theorem A5(p:Program)(m:Machine):OG m.world.drawn (askOn p m):=by
 have pick:∀(m:Machine)(rs:List Nat),OG m.world.drawn (match(choose (.sched rs.length)).run p m.world with
   | .halt _ w=>.machine (.ended (.stuck "sched" "") w)
   | .ok k world=>
    if rs.length<=1 then .goroutine {m with world} (rs.getD k 0)else
    match(choose (.extern "sched.slice" 65536)).run p world with
    | .halt _ w=>.machine (.ended (.stuck "sched.slice" "") w)
    | .ok n world=>.goroutine {m with world,rest:={m.rest with slice:=if n=0 then none else some (rs.getD k 0,n)}} (rs.getD k 0)):=by
  intro m rs;split
  ·trivial
  ·rename_i w1 e;have h:m.world.drawn<=w1.drawn:=cF e;split
   ·exact h
   ·split
    ·trivial
    ·rename_i e;exact bH h (cF e)
 unfold askOn;simp only[];split
 ·trivial
 ·rename_i k w1 e;have h:m.world.drawn<=w1.drawn:=cF e;clear e;split
  ·exact sD.trans h (Po p {m with world:=w1} _)
  ·split
   ·split
    ·exact h
    ·split
     ·exact h
     ·split<;>trivial
   ·split
    ·exact OG.trans h (pick {m with world:=w1} _)
    ·split
     ·trivial
     ·rename_i w2 e;exact OG.trans (bH h (cF e)) (pick {m with world:=w2} _)
     ·rename_i e;exact bH h (cF e)
     ·rename_i k2 w2 e;exact OG.trans (bH h (cF e)) (pick (Machine.advanceTo {m with world:=w2} _) _)
theorem MJ(p:Program)(m:Machine):OG m.world.drawn (ask p m):=by
 unfold ask;split
 ·split
  ·trivial
  ·rename_i w1 e;have h:m.world.drawn<=w1.drawn:=cF e;have h2:=Lb p m.gs m.rest w1;split
   ·rename_i e2;rw[e2]at h2;exact OG.trans (bH h h2) (A5 ..)
   ·exact sD.trans h h2
  ·rename_i w1 _ e;have h:m.world.drawn<=w1.drawn:=cF e;exact OG.trans h (A5 p {m with world:=w1})
 grind[A5]
theorem TL(p:Program)(m:Machine):OG m.world.drawn (move p m):=by
 unfold move;split
 ·split
  ·exact af _
  ·trivial
 ·split
  ·split
   ·exact af _
   ·exact MJ p {m with rest:={m.rest with slice:=none}}
  grind[MJ]
theorem TQ(p:Program)(m:Machine):sD m.world.drawn (step p m):=by
 unfold step stepT;have h:=TL p m;split
 ·rename_i e;rw[e]at h;exact sD.trans h (Tz ..)
 ·rename_i e;rw[e]at h;exact h
theorem KO(p:Program):∀(n:Nat)(m m':Machine),runN p n m=.next m'->m.world.drawn<=m'.world.drawn
 |0,m,m',h=>by cases h;omega
 |n+1,m,m',h=>by
  rw[runN]at h;have h1:=TQ p m;split at h
  ·rename_i e;rw[e]at h1;exact bH h1 (KO p n _ _ h)
  simp_all
theorem Py{p:Program}{m m':Machine}(h:Steps p m m'):m.world.drawn<=m'.world.drawn:=by
 obtain⟨n,h⟩:=h;exact KO p n m m' h
theorem HT{p:Program}{f:FuncId}{args:Array Value}{w:World}{R:Ending->World->Prop}(h:Calls p f args w R):Calls p f args w fun e w'=>R e w'/\((∃v,e=.returned v)->w.drawn<=w'.drawn):=by
 intro cs;obtain⟨e,w',fr,h1,h2,h3,h4⟩:=h cs;refine⟨e,w',fr,⟨h1,?_⟩,h2,h3,h4⟩
 rintro⟨v,rfl⟩
 exact Py (m:=lone _ cs w) (m':=lone fr cs w') h2
end Go.Ev
namespace Go.Ev
open Go Go.RowKit
section
variable{P:Program}{G:eh}{pl:Pl}{M:dg}{h:AHeap}{w w':World}{f:FuncId}{args:List AV}{v:AV}
theorem ce.below(hr:ce pl M h w)(hb:Below w.heap.size w w'):ce pl M h w':=
 ⟨hr.dom,fun id p o h1 h2=>by rw[hb.block _ (hr.blk id p h1)];exact hr.obj id p o h1 h2,fun id p h1=>FJ (hr.blk id p h1) hb.size,hr.inj,
  fun b c h1=>by rw[hb.block _ (hr.memLt h1)];exact hr.imm b c h1,hr.sep⟩
theorem cN.below(hb:Below w.heap.size w w')(hd:w.drawn<=w'.drawn):cN h pl M w h pl M w':=⟨ni.refl _,fun _ _ h=>h,fun _ _ h=>h,hb.size,fun b h1 _=>hb.block b h1,fun id p h=>.inl ⟨p,h,rfl⟩,fun _ _ _ h=>h,fun _ _ h _=>h,fun _ _ h=>.inl h,hb.os,hb.tape,hb.output,hd⟩
theorem aT.below(hE:∀vs w,(callFunc f vs).run P w=.ok (.enter f vs) w)
  (hC:∀(pl:Pl)(M:dg)(w:World)(vs:Array Value)(h:AHeap),pu G pl M->ce pl M h w->VRels pl M args vs->∃cv,VRel pl M v cv/\Calls P f vs w fun e w'=>e=.returned cv/\Below w.heap.size w w'):aT P G f args v:=by
 intro h pl M w vs hG hr hv;obtain⟨cv,h1,h2⟩:=hC pl M w vs h hG hr hv;refine .inl ⟨hE _ _,Calls.mono (HT h2) fun e w' ⟨⟨he,hb⟩,hd⟩=>?_⟩;exact⟨cv,v,h,he,⟨rfl,rfl⟩,pl,M,h1,hr.below hb,cN.below hb (hd ⟨_,he⟩),af _⟩
theorem aT.calls(hGT:iL G)(hE:∀vs w,(callFunc f vs).run P w=.ok (.enter f vs) w)(hp:aT P G f args v)(hG:pu G pl M)(hr:ce pl M h w){vs:Array Value}(hv:VRels (fun _=>none) M args vs):
  Calls P f vs w fun e w'=>(∃cv pl' M',e=.returned cv/\VRel pl' M' v cv)/\Below w.heap.size w w'/\w.drawn<=w'.drawn:=by
 have r0:ce (fun _=>none) M AHeap.none w:=⟨fun _ _ h=>(by grind),fun _ _ _ h _=>(by grind),fun _ _ h=>(by grind),fun _ _ _ _ h _ _=>(by grind),hr.imm,fun _ _ h=>(by grind)⟩
 rcases hp AHeap.none (fun _=>none) M w vs (hG.none hGT) r0 hv with⟨_,h2⟩|⟨cv,w1,v1,h1,e1,_,_⟩
 ·refine Calls.mono h2 fun e w' ⟨cv,v1,h1,he,⟨e1,e2⟩,pl',M',g1,g2,g3,_⟩=>?_
  subst e1;exact⟨⟨cv,pl',M',he,g1⟩,⟨g3.os,g3.tape,g3.out,g3.size,fun b hb=>g3.kept b hb fun id p h=>(by grind)⟩,g3.drawn⟩
 ·grind
end
def QO(lo hi:Int)(c:UInt8):Bool:=aj (au (.ofNat c.toNat) lo||au hi (.ofNat c.toNat))
abbrev kf:UInt8->Bool:=QO 48 57
abbrev X0:UInt8->Bool:=QO 65 90
def ed(p:UInt8->Bool)(s:aP):Nat:=(s.takeWhile p).length
section
variable{p:UInt8->Bool}{s:aP}
theorem KP:ed p s<=s.length:=(List.takeWhile_prefix p).length_le
theorem KR:∀{s:aP}{i:Nat},i<ed p s->p (gD s i)=true
 |[],i,h=>by simp_all[ed]
 | c::r,i,h=>by
  cases hc:p c with
  |false=>simp_all[ed]
  |true=>
   cases i with
   |zero=>exact hc
   |succ i=>exact KR (s:=r) (by simp_all[ed])
theorem F2:∀{s:aP},ed p s<s.length->p (gD s (ed p s))=false
 |[],h=>by simp_all
 | c::r,h=>by
  cases hc:p c with
  |false=>simp[ed,hc,gD]
  |true=>
   have h2:ed p r<r.length:=by simp_all[ed]
   have:=F2 (s:=r) h2;simp_all[ed,gD]
theorem vw:∀{s:aP},ed p s=s.length↔s.all p=true
 |[]=>by simp[ed]
 |c::r=>by
  have ih:ed p r=r.length↔r.all p=true:=vw;cases hc:p c with
  |false=>simp[ed,hc]
  |true=>simp_all[ed]
end
theorem Xz{lo hi:Int}{c:UInt8}(h1:au hi (.ofNat c.toNat)=true):QO lo hi c=false:=by grind[QO]
def kz(s:aP):Bool:=aj (au (.ofNat (s.take (ed kf s)).length) 1)&&(aj (au 4 (.ofNat (s.take (ed kf s)).length))&&(aj (ab (.ofNat (gD (s.take (ed kf s)) 0).toNat) 48)&&(aj (au 3 (.ofNat (s.drop (ed kf s)).length))&&(s.drop (ed kf s)).all X0)))
def rP(s:aP):Bool:=aj (au (.ofNat s.length) 1)&&(aj (au 24 (.ofNat s.length))&&s.all (QO 33 126))
def qc(l:List aP):Bool:=aj (au 256 (.ofNat l.length))&&l.all rP
theorem EQ:({data:=#[]}:ByteArray).data.toList=([]:List UInt8):=rfl
theorem RD(s:aP):au (.ofNat s.length) 1=dP s []:=by cases s<;>rfl
def dn{α:Type}(p:α->Bool):List α->Nat->Int
 |[],_=> -1
 |x::r,i=>bif p x then Int.ofNat i else dn p r (i+1)
theorem lu{α:Type}(p:α->Bool):∀(l:List α)(i:Nat),au (dn p l i) 0=aj (l.any p)
 |[],_=>rfl
 |x::r,i=>by
  unfold dn;rw[List.any_cons];cases h:p x with
  |true=>rfl
  |false=>simp_all[lu]
section
variable{α:Type}{p:α->Bool}{l x r:List α}{w:α}{j:Nat}
theorem ou(h1:l.drop j=x)(h2:x=w::r):l.length-(w::r).length=j/\l.length-r.length=j+1:=by grind
theorem md(h1:l.drop j=x)(h2:x=w::r)(h3:dn p l 0=dn p (w::r) (l.length-(w::r).length))(h4:p w=true):dn p l 0=Int.ofNat j:=by rw[h3,(ou h1 h2).1,dn,h4];rfl
theorem kj(h1:l.drop j=x)(h2:x=w::r)(h3:dn p l 0=dn p (w::r) (l.length-(w::r).length))(h4:p w=false):dn p l 0=dn p r (l.length-r.length):=by rw[h3,(ou h1 h2).1,(ou h1 h2).2,dn,h4];rfl
end
def na(s:PStep):Bool:=ab s.kind 0&&dP s.label []
def tw(s:PStep):Bool:=au 0 s.kind&&(aj (au 7 s.kind)&&kz s.label)
def Oh:List PStep->Bool
 |[]=>true
 |s::r=>(na s||tw s)&&r.all tw
def kH(p:List PStep):Bool:=Oh p&&aj (au 9 (.ofNat p.length))
def IZ(p r:List PStep):Bool:=bif Nat.beq r.length p.length then Oh r else r.all tw
theorem Og{p:List PStep}:Oh p=IZ p p:=by simp_all[IZ]
theorem Ve{p:List PStep}:IZ p []=true:=by unfold IZ;cases Nat.beq ([]:List PStep).length p.length<;>rfl
theorem EM{p x r:List PStep}{w:PStep}{j:Nat}(h1:p.drop j=x)(h2:x=w::r)(h3:Oh p=IZ p (w::r)):Oh p=((bif ab (Int.ofNat j) 0 then(na w||tw w)else tw w)&&IZ p r):=by
 obtain⟨e1,e2⟩:=ou h1 h2;have e3:=congrArg List.length (h1.trans h2);simp only[yd,cO]at e1 e2 e3;have f1:Nat.beq r.length p.length=false:=by cases h:Nat.beq r.length p.length with|false=>rfl|true=>grind[Nat.eq_of_beq_eq_true]
 rw[h3];unfold IZ;rw[f1];cases j with
 |zero=>
  have f2:Nat.beq (w::r).length p.length=true:=by simp_all
  rw[f2];rfl
 |succ j=>
  have f2:Nat.beq (w::r).length p.length=false:=by cases h:Nat.beq (w::r).length p.length with|false=>rfl|true=>simp_all
  rw[f2];rfl
def dQ:Int->aP
 |0=>[98,111,111,107]
 |1=>[112,97,114,116]
 |2=>[115,101,99,116,105,111,110]
 |3=>[112,97,114,97,103,114,97,112,104]
 |4=>[116,97,98,108,101]
 |5=>[114,111,119]
 |6=>[99,101,108,108]
 |7=>[110,111,116,101]
 |_=>[]
def Ih:Int->List Int
 |0=>[1,2]
 |1=>[2]
 |2=>[3,4,7]
 |3=>[3,4,7]
 |4=>[5]
 |5=>[6]
 |_=>[]
def jV(p k:Int):Bool:=(Ih p).any (ab k)
theorem Jx{k:Int}(h:k<0\/7<k):dQ k=[]:=by
 unfold dQ;grind
theorem Ig{k:Int}(h:k<0\/7<k):Ih k=[]:=by
 unfold Ih;grind
end Go.Ev
namespace Go.Ev
open Go Go.RowKit Go.Proofs
structure ClassOf(p:UInt8->Bool)(q:Nat->Bool):Prop where
 low:∀c:UInt8,c.toNat<128->q c.toNat=aj (p c)
 high:∀n,128<=n->q n=true
 none:∀c:UInt8,128<=c.toNat->p c=false
theorem Us{s:aP}{i:Nat}(h:i<s.length)(h2:i<ByteArray.size ⟨⟨s⟩⟩):(ByteArray.mk ⟨s⟩)[i]'h2=gD s i:=by
 simp[gD,List.getD,ko h];rfl
theorem uy{p:UInt8->Bool}{q:Nat->Bool}(hc:ClassOf p q)(s:aP):∀(f pos:Nat),pos<=ed p s->s.length<=pos+f->Lib.idxFuncFrom q true ⟨⟨s⟩⟩ f pos=(bif Nat.beq (ed p s) s.length then -1 else Int.ofNat (ed p s))
 | f,pos,h1,h2=>by
  have hl:=KP (p:=p) (s:=s);have hsz:ByteArray.size ⟨⟨s⟩⟩=s.length:=rfl;by_cases he:pos<s.length
  ·cases f with
   |zero=>omega
   | succ f=>
    unfold Lib.idxFuncFrom;rw[hsz,if_pos he];have hb:=Us he (by rw[hsz];exact he);by_cases hr:pos<ed p s
    ·have hp:=KR hr;have ha:(gD s pos).toNat<128:=by
      rcases eT (gD s pos).toNat 128 with h|h
      ·exact h
      ·rw[hc.none _ h]at hp;cases hp
     rw[decode_ascii _ pos (by rw[hsz];exact he) (by rw[hb];exact ha),hb];rw[if_neg (by rw[hc.low _ ha,hp];decide)];exact uy hc s f (pos+1) hr (by omega)
    ·have e:ed p s=pos:=by omega
     have hp:=F2 (p:=p) (s:=s) (by omega);rw[e]at hp;have hq:q (Utf8.decode ⟨⟨s⟩⟩ pos).1=true:=by
      rcases eT (gD s pos).toNat 128 with h|h
      ·rw[decode_ascii _ pos (by rw[hsz];exact he) (by rw[hb];exact h),hb,hc.low _ h,hp];rfl
      ·exact hc.high _ (decode_high _ pos (by rw[hsz];exact he) (by rw[hb];exact h)).1
     rw[if_pos hq,e];have f1:Nat.beq pos s.length=false:=by cases h:Nat.beq pos s.length with|false=>rfl|true=>have:=pC h;omega
     rw[f1];rfl
  ·have e:ed p s=s.length:=by omega
   rw[Lib.idxFuncFrom_end _ _ _ _ _ (by rw[hsz];exact he),e,qQ];rfl
theorem wN{p:UInt8->Bool}{q:Nat->Bool}(hc:ClassOf p q)(s:aP):Lib.idxFunc q true ⟨⟨s⟩⟩=(bif Nat.beq (ed p s) s.length then -1 else Int.ofNat (ed p s)):=uy hc s _ 0 (bE _) (by show s.length<=0+s.length;omega)
section
variable{P:Program}{G:eh}{f g:FuncId}
theorem Ca{pl:Pl}{M:dg}{w:World}{h:AHeap}(hGT:iL G)(hg2:∀args w,(callFunc g args).run P w=.ok (.enter g args) w){q:Nat->Bool}{qI:Int->Bool}(hp:∀r:Int,aT P G g [.int .i32 r] (.bool (qI r)))(hq:∀n:Nat,qI (.ofNat n)=q n)
  (hG:pu G pl M)(hr:ce pl M h w):PredGrows P g #[] q w:=by
 intro W x _ hb;refine Calls.mono (aT.calls hGT hg2 (hp (.ofNat x)) hG (hr.below hb) (vs:=#[.int .i32 (.ofNat x)]) ⟨rfl,fun j y hj=>?_⟩) fun e w' ⟨⟨cv,pl',M',he,hv⟩,hb',_⟩=>?_
 ·cases j with
  |zero=>simp at hj;subst hj;exact .int _ _
  |succ j=>simp_all
 grind[cases VRel]
theorem AY(hGT:iL G)(hE:∀vs w,(callFunc f vs).run P w=.ok (.enter f vs) w)(hg2:∀args w,(callFunc g args).run P w=.ok (.enter g args) w){q:Nat->Bool}{qI:Int->Bool}
  (hC:∀(s:ByteArray)(w:World),PredGrows P g #[] q w->Calls P f #[.string s,.func (.func g) #[] #[]] w fun e w'=>e=.returned (.int .i64 (Lib.idxFunc q true s))/\Below w.heap.size w w')
  (hp:∀r:Int,aT P G g [.int .i32 r] (.bool (qI r)))(hq:∀n:Nat,qI (.ofNat n)=q n){p:UInt8->Bool}(hc:ClassOf p q)(s:aP):
  aT P G f [.str s,.func (.func g) [] []] (.int .i64 (bif Nat.beq (ed p s) s.length then -1 else Int.ofNat (ed p s))):=by
 refine aT.below hE fun pl M w vs h hG hr hv=>?_
 obtain⟨a,b,rfl,hv1,hv2⟩:=A8 hv;have e2:=zK hv2;subst e2;cases hv1
 rw[<-wN hc s];exact⟨_,.int _ _,hC ⟨⟨s⟩⟩ w (Ca hGT hg2 hp hq hG hr)⟩
theorem uG(hGT:iL G)(hE:∀vs w,(callFunc f vs).run P w=.ok (.enter f vs) w)(hg2:∀args w,(callFunc g args).run P w=.ok (.enter g args) w){q:Nat->Bool}{qI:Int->Bool}
  (hC:∀(s:ByteArray)(w:World),PredGrows P g #[] q w->Calls P f #[.string s,.func (.func g) #[] #[]] w fun e w'=>e=.returned (.bool (decide (0<=Lib.idxFunc q true s)))/\Below w.heap.size w w')
  (hp:∀r:Int,aT P G g [.int .i32 r] (.bool (qI r)))(hq:∀n:Nat,qI (.ofNat n)=q n){p:UInt8->Bool}(hc:ClassOf p q)(s:aP):
  aT P G f [.str s,.func (.func g) [] []] (.bool (aj (s.all p))):=by
 refine aT.below hE fun pl M w vs h hG hr hv=>?_
 obtain⟨a,b,rfl,hv1,hv2⟩:=A8 hv;have e2:=zK hv2;subst e2;cases hv1
 have e:aj (s.all p)=decide (0<=Lib.idxFunc q true ⟨⟨s⟩⟩):=by
  rw[wN hc s];cases ha:s.all p with
  |true=>rw[(vw (p:=p)).2 ha,qQ];rfl
  | false=>
   have:Nat.beq (ed p s) s.length=false:=by
    cases hb:Nat.beq (ed p s) s.length with
    |false=>rfl
    |true=>grind[vw,Nat.eq_of_beq_eq_true]
   simp_all
 rw[e];exact⟨_,.bool _,hC ⟨⟨s⟩⟩ w (Ca hGT hg2 hp hq hG hr)⟩
end
theorem HM{lo hi:Nat}(h:hi<128):ClassOf (QO (Int.ofNat lo) (Int.ofNat hi)) fun n=>au (Int.ofNat n) (Int.ofNat lo)||au (Int.ofNat hi) (Int.ofNat n) where
 low c _:=by unfold QO;simp_all
 high n hn:=by rw[show au (Int.ofNat hi) (Int.ofNat n)=true from m0 (by grind)];simp_all
 none c hn:=Xz (m0 (by grind))
end Go.Ev
namespace Go.Ev
open Go Go.RowKit
section
variable{P:Program}{G:eh}{f:FuncId}
theorem Ir{pl:Pl}{M:dg}{w:World}{h:AHeap}(hr:ce pl M h w){l:List aP}{a:Addr}{n cap:Nat}(hv:VRel pl M (.ps (l.map nW) false) (.slice (some a) n cap))(hne:l≠[]):
  n=l.length/\n<=cap/\a=⟨a.block,a.off,none⟩/\a.block<w.heap.size/\∀(j:Nat)(x:ByteArray),(l.map fun s=>(⟨⟨s⟩⟩:ByteArray))[j]?=some x->w.cell? ⟨a.block,a.off+j,none⟩=some (.string x):=by
 cases hv with
 | ps hl ht hm hs hc=>
  rename_i sz c;have hne':l.map nW≠[]:=by simp_all
  obtain⟨m1,m2,m3,m4⟩:=hm hne';obtain⟨t,fr,hb⟩:=hr.imm _ _ m2;have hsz:sz=1:=by
   cases l with
   |nil=>simp_all
   |cons s r=>exact((hs (nW s) (by simp)).1).symm
  subst hsz;refine⟨by simp,hl,by rw[<-m1],hr.memLt m2,fun j x hj=>?_⟩;rw[qJ]at hj;obtain⟨s,e1,rfl⟩:=FX.1 hj;have hlt:j<l.length:=(fe.1 e1).1;have q:=hc j (nW s) 0 (.str s) (by simp_all) rfl;rw[Nat.mul_one,pD]at q;have hin:a.off+j<c.size:=by grind
  have e2:c[a.off+j]?=some (c.getD (a.off+j) undef):=by simp_all
  simp only[World.cell?,hb];simp only[Option.isSome_none,fE,if_false];rw[e2];cases hq:c.getD (a.off+j) undef<;>rw[hq]at q<;>cases q
  rfl
theorem NE(hE:∀vs w,(callFunc f vs).run P w=.ok (.enter f vs) w)
  (hC:∀(bk o c:Nat)(xs:List ByteArray)(sep:ByteArray)(w:World),(∀(j:Nat) x,xs[j]?=some x->w.cell? ⟨bk,o+j,none⟩=some (.string x))->bk<w.heap.size->xs.length<=140737488355328->xs.length<=c->
   (Lib.join (xs.map (·.data.toList)) sep.data.toList).length<=140737488355328->
   Calls P f #[.slice (some ⟨bk,o,none⟩) xs.length c,.string sep] w fun e w'=>e=.returned (.string ⟨(Lib.join (xs.map (·.data.toList)) sep.data.toList).toArray⟩)/\Below w.heap.size w w')
  (hN:∀(a:Option Addr)(c:Nat)(sep:ByteArray)(w:World),Calls P f #[.slice a 0 c,.string sep] w fun e w'=>e=.returned (.string ⟨#[]⟩)/\w'=w)
  (l:List aP)(sep:aP)(h1:l.length<=140737488355328)(h2:(Lib.join l sep).length<=140737488355328):aT P G f [.ls (l.map nW),.str sep] (.str (Lib.join l sep)):=by
 refine aT.below hE fun pl M w vs h hG hr hv=>?_
 obtain⟨a,b,rfl,hv1,hv2⟩:=A8 hv;cases hv2
 have nil (p:Option Addr) (cap:Nat) (hl:l=[]):∃cv,VRel pl M (.str (Lib.join l sep)) cv/\Calls P f #[.slice p 0 cap,.string ⟨⟨sep⟩⟩] w fun e w'=>e=.returned cv/\Below w.heap.size w w':=by
  subst hl;exact⟨.string ⟨⟨[]⟩⟩,.str _,Calls.mono (hN p cap ⟨⟨sep⟩⟩ w) fun e w' ⟨he,hw⟩=>⟨he,hw▸Below.refl _ _⟩⟩
 generalize hx:l.map nW=xs at hv1;cases hv1 with
 |lsn=>simp_all
 | lsp hp ht=>
  subst hx;by_cases hl:l=[]
  ·subst hl;cases hp with
   |ps=>simp_all
  ·have hp':=hp;cases hp with
   |ps=>
    rename_i a cap sz c _ _ _ _ _;obtain⟨e1,e2,e3,e4,e5⟩:=Ir hr hp' hl;have e6:(l.map fun s=>(⟨⟨s⟩⟩:ByteArray)).map (·.data.toList)=l:=by rw[List.map_map];exact List.map_id l
    have:=hC a.block a.off cap (l.map fun s=>⟨⟨s⟩⟩) ⟨⟨sep⟩⟩ w e5 e4 (by grind) (by grind) (by grind);rw[e6,<-e3,cX,<-e1]at this;exact⟨.string ⟨⟨Lib.join l sep⟩⟩,.str _,this⟩
theorem F5(hE:∀vs w,(callFunc f vs).run P w=.ok (.enter f vs) w)
  (hC:∀(s:ByteArray)(c:Nat)(w:World),c<=9223372036854775807->s.size*c<=140737488355328->Calls P f #[.string s,.int .i64 c] w fun e w'=>e=.returned (.string ⟨(Lib.repeatL s.data.toList c).toArray⟩)/\Below w.heap.size w w')
  (s:aP)(c:Nat)(h1:c<=9223372036854775807)(h2:s.length*c<=140737488355328):aT P G f [.str s,.int .i64 (.ofNat c)] (.str (Lib.repeatL s c)):=by
 refine aT.below hE fun pl M w vs h hG hr hv=>?_
 obtain⟨a,b,rfl,hv1,hv2⟩:=A8 hv;cases hv1;cases hv2
 exact⟨.string ⟨⟨Lib.repeatL s c⟩⟩,.str _,hC ⟨⟨s⟩⟩ c w h1 h2⟩
theorem MI(hE:∀vs w,(callFunc f vs).run P w=.ok (.enter f vs) w)
  (hC:∀(s cs:ByteArray)(w:World),s.size<=9223372036854775807->cs.size<4294967281->(∀(j:Nat) b,cs.data.toList[j]?=some b->b.toNat<128)->
   Calls P f #[.string s,.string cs] w fun e w'=>e=.returned (.string ⟨(Lib.trimS s.data.toList cs.data.toList).toArray⟩)/\Below w.heap.size w w')
  (s cs:aP)(h1:s.length<=9223372036854775807)(h2:cs.length<4294967281)(h3:∀b,b∈cs->b.toNat<128):aT P G f [.str s,.str cs] (.str (Lib.trimS s cs)):=by
 refine aT.below hE fun pl M w vs h hG hr hv=>?_
 obtain⟨a,b,rfl,hv1,hv2⟩:=A8 hv;cases hv1;cases hv2
 exact⟨.string ⟨⟨Lib.trimS s cs⟩⟩,.str _,hC ⟨⟨s⟩⟩ ⟨⟨cs⟩⟩ w h1 h2 fun j b hj=>h3 b (bh hj)⟩
end
structure PId where
 a:Int
 i:Int
 n:Int
 deriving Inhabited,DecidableEq
noncomputable def aV(p:PId):AV:=.agg [.int .i64 p.a,.int .i64 p.i,.int .i64 p.n]
theorem JD(p:PId):(aV p).top=0:=rfl
def aI(u:TUnit):PId:=⟨u.act,u.item,u.n⟩
def bW(p q:PId):Bool:=ab p.a q.a&&(ab p.i q.i&&ab p.n q.n)
theorem yY{p q:PId}(h:bW p q=true):p=q:=by
 unfold bW at h;rw[bq,bq]at h;obtain⟨a,b,c⟩:=p;obtain⟨d,e,g⟩:=q;grind[iB]
theorem ip(p:PId):bW p p=true:=by simp[bW,bz]
abbrev fD(p:PId)(u:TUnit):Bool:=bW (aI u) p
theorem Jk:KeyOf PId true 3 [(0,1),(1,1),(2,1)] aV bW where
 eq a b:=by
  show vQ [.int .i64 a.a,.int .i64 a.i,.int .i64 a.n] [.int .i64 b.a,.int .i64 b.i,.int .i64 b.n] [(0,1),(1,1),(2,1)]=_
  simp only[vQ,jx,Rp,Ha,kE,bW];cases h1:ab a.a b.a<;>cases h2:ab a.i b.i<;>cases h3:ab a.n b.n<;>rfl
 t a b h:=yY h
 refl a:=ip a
 same a:=by simp[aV,lx,jo,jO,kE,bz]
 top a:=rfl
mutual
def nU:TUnit->Nat
 |⟨_,_,_,_,_,_,_,ks⟩=>1+eQ ks
def eQ:List TUnit->Nat
 |[]=>0
 |k::r=>nU k+eQ r
end
mutual
def nJ:TUnit->Nat
 |⟨_,_,_,_,_,_,_,ks⟩=>kF ks
def kF:List TUnit->Nat
 |[]=>0
 |k::r=>Nat.max (1+nJ k) (kF r)
end
mutual
def bU:TUnit->List TUnit
 |⟨x1,x2,x3,x4,x5,x6,x7,ks⟩=>⟨x1,x2,x3,x4,x5,x6,x7,ks⟩::dZ ks
def dZ:List TUnit->List TUnit
 |[]=>[]
 |k::r=>bU k++dZ r
end
mutual
def aC(p:PId):TUnit->List TUnit
 |⟨x1,x2,x3,x4,x5,x6,x7,ks⟩=>bif fD p ⟨x1,x2,x3,x4,x5,x6,x7,ks⟩then[⟨x1,x2,x3,x4,x5,x6,x7,ks⟩]else match b9 p ks with
  |[]=>[]
  |y::t=>⟨x1,x2,x3,x4,x5,x6,x7,ks⟩::y::t
def b9(p:PId):List TUnit->List TUnit
 |[]=>[]
 |k::r=>match aC p k with
  |[]=>b9 p r
  |y::t=>y::t
end
theorem jQ(u:TUnit):nU u=1+eQ u.kids:=by cases u;rw[nU];rfl
theorem ma:eQ []=0:=by rw[eQ]
theorem bf(k:TUnit)(r:List TUnit):eQ (k::r)=nU k+eQ r:=by rw[eQ]
theorem LS(u:TUnit):nJ u=kF u.kids:=by cases u;rw[nJ];rfl
theorem DZ:kF []=0:=by rw[kF]
theorem JG(k:TUnit)(r:List TUnit):kF (k::r)=Nat.max (1+nJ k) (kF r):=by rw[kF]
theorem ch(u:TUnit):bU u=u::dZ u.kids:=by cases u;rw[bU];rfl
theorem eH:dZ []=[]:=by rw[dZ]
theorem bw(k:TUnit)(r:List TUnit):dZ (k::r)=bU k++dZ r:=by rw[dZ]
def cH(u:TUnit):List PId:=(bU u).map aI
def gS(l:List TUnit):List PId:=(dZ l).map aI
theorem me(u:TUnit):cH u=aI u::gS u.kids:=by unfold cH gS;rw[ch];rfl
theorem ra:gS []=[]:=by unfold gS;rw[eH];rfl
theorem fm(k:TUnit)(r:List TUnit):gS (k::r)=cH k++gS r:=by grind[cH,gS,bw]
theorem D6:∀{l:List TUnit}{k:TUnit},k∈l->nU k<=eQ l
 |x::r,k,h=>by
  rw[bf];rcases eu.1 h with rfl|h
  ·omega
  ·have:=D6 h;omega
theorem ig{u k:TUnit}(h:k∈u.kids):nU k<nU u:=by rw[jQ u];have:=D6 h;omega
theorem JJ(u:TUnit):0<nU u:=by grind[jQ]
theorem x8:∀(l:List TUnit),l.length<=eQ l
 |[]=>by simp_all
 |k::r=>by
  rw[bf,cO];have:=x8 r;grind[JJ]
theorem bg(u:TUnit):u.kids.length<nU u:=by grind[jQ,x8]
theorem Nj{l:List TUnit}(h:∀k,k∈l->(bU k).length=nU k):(dZ l).length=eQ l:=by
 induction l with
 |nil=>rw[eH,ma];rfl
 |cons k r ih=>grind[bw,bf]
theorem GZ:∀(u:TUnit),(bU u).length=nU u:=TUnit.ind fun u ih=>by grind[ch,jQ,Nj]
theorem ub(u:TUnit):(cH u).length=nU u:=by grind[cH,GZ]
theorem RM{l:List TUnit}{n:Nat}(h:∀k,k∈l->1+nJ k<=n):kF l<=n:=by
 induction l with
 |nil=>grind[DZ]
 |cons k r ih=>grind[JG]
theorem El:∀(u:TUnit),nJ u<nU u:=TUnit.ind fun u ih=>by
 have:kF u.kids<=eQ u.kids:=RM fun k hk=>by have:=ih k hk;have:=D6 hk;omega
 grind[LS,jQ]
section
variable{p:PId}{u w:TUnit}{r:List TUnit}
theorem ft(u:TUnit):aC p u=bif fD p u then[u]else match b9 p u.kids with|[]=>[]|y::t=>u::y::t:=by cases u;rw[aC];rfl
theorem jG:b9 p []=[]:=by rw[b9]
theorem oR(k:TUnit)(r:List TUnit):b9 p (k::r)=match aC p k with|[]=>b9 p r|y::t=>y::t:=by rw[b9]
def bp(p:PId)(u:TUnit):Bool:=aj (aC p u).isEmpty
theorem Ax(h:bp p u=false):aC p u=[]:=by grind[bp]
theorem vG(h:bp p u=true):∃y t,aC p u=y::t:=by
 unfold bp at h;cases e:aC p u with
 |nil=>grind
 |cons x r=>simp_all
theorem jg(h:bp p u=true):aC p u≠[]:=by grind[vG]
theorem tU(h:fD p u=true):aC p u=[u]:=by rw[ft,h];rfl
theorem Ez(h:fD p u=true):bp p u=true:=by unfold bp;rw[tU h];rfl
theorem gv(h:bp p w=false):b9 p (w::r)=b9 p r:=by rw[oR,Ax h]
theorem mE(h:bp p w=true):b9 p (w::r)=aC p w:=by grind[vG,oR]
theorem PX(h:fD p u=false)(h2:b9 p u.kids=b9 p []):aC p u=[]:=by rw[ft,h,h2,jG];rfl
theorem GS(h:fD p u=false)(h2:b9 p u.kids=b9 p []):bp p u=false:=by unfold bp;rw[PX h h2];rfl
theorem KK(h:fD p u=false)(h2:b9 p u.kids=b9 p (w::r))(h3:bp p w=true):aC p u=u::aC p w:=by grind[ft,mE,vG]
theorem Ui(h:fD p u=false)(h2:b9 p u.kids=b9 p (w::r))(h3:bp p w=true):bp p u=true:=by unfold bp;rw[KK h h2 h3];rfl
end
theorem mj{p:PId}:∀(u:TUnit),(aC p u).length<=nU u:=TUnit.ind fun u ih=>by
 rw[ft];cases fD p u with
 |true=>exact JJ u
 | false=>
  have key:∀(r:List TUnit),(∀k,k∈r->k∈u.kids)->(b9 p r).length<=eQ r:=by
   intro r;induction r with
   |nil=>grind[jG]
   |cons k r ihr=>grind[oR,bf]
  grind[jQ]
def bd:TUnit:=⟨0,0,0,0,[],[],[],[]⟩
noncomputable def bT(p:PId)(u:TUnit):TUnit:=bif bp p u then gD (aC p u) ((aC p u).length -1)else bd
theorem KY{p:PId}:∀(u:TUnit)(x:TUnit),x∈aC p u->x∈bU u:=TUnit.ind fun u ih=>by
 intro x hx;rw[ft]at hx;rw[ch];cases h:fD p u with
 |true=>simp_all
 | false=>
  rw[h]at hx;simp only[cond_false]at hx;have key:∀(r:List TUnit),(∀k,k∈r->k∈u.kids)->∀x,x∈b9 p r->x∈dZ r:=by
   intro r;induction r with
   |nil=>grind[jG]
   |cons k r ihr=>grind[oR,bw]
  grind
noncomputable def pI(p:Int×aP):AV:=.agg [.int .i64 p.1,.str p.2]
def nQ(a b:Int×aP):Bool:=ab a.1 b.1&&dP a.2 b.2
theorem uf:∀(s:aP),dP s s=true
 |[]=>rfl
 |c::r=>by simp only[dP,uf r,Bool.and_true];simp_all
theorem Ru:∀{a b:aP},dP a b=true->a=b
 |[],[],_=>rfl
 |c::r,d::q,h=>by
  simp only[dP,bq]at h;rw[Ru h.2,UInt8.toNat_inj.1 (pC h.1)]
theorem Lo:KeyOf (Int×aP) true 2 [(0,1),(1,2)] pI nQ where
 eq a b:=by
  show vQ [.int .i64 a.1,.str a.2] [.int .i64 b.1,.str b.2] [(0,1),(1,2)]=_
  simp only[vQ,jx,Rp,Ha,kE,nQ];cases h1:ab a.1 b.1<;>cases h2:dP a.2 b.2<;>rfl
 t a b h:=by
  simp only[nQ,bq]at h;grind[iB,Ru]
 refl a:=by simp[nQ,bz,uf]
 same a:=by simp[pI,lx,jo,jO,kE,bz,uf]
 top a:=rfl
noncomputable def dx(b:Bool):AV:=.bool b
theorem Ap(b:Bool):(dx b).top=0:=rfl
def OH{K:Type}(keq:K->K->Bool)(k:K)(l:List (K×Bool)):Bool:=(n7 keq k l).getD false
section
variable{K:Type}{ag:Bool}{sz:Nat}{lv:List (Nat×Nat)}{kenc:K->AV}{keq:K->K->Bool}
theorem Gg(hk:KeyOf K ag sz lv kenc keq)(m:List (K×Bool))(k:K):eM (some (.bool false)) false (ba ag sz lv (kenc k) (bo kenc dx m 0) 0)=some (.bool (OH keq k m)):=by
 rw[zP hk];unfold OH;cases n7 keq k m with
 |none=>rfl
 |some v=>rfl
theorem KU(hk:KeyOf K ag sz lv kenc keq)(m:List (K×Bool))(k:K):rD (bo kenc dx m 0) m.length (kenc k) (.bool true) (ba ag sz lv (kenc k) (bo kenc dx m 0) 0)=some (bo kenc dx (fC keq k true m) 0,(fC keq k true m).length):=CZ (f:=dx) hk k true m
end
def oO(l:List PWord):Bool:=aj (au 256 (.ofNat l.length))&&qc (l.map fun w=>w.text)
def m5(pk:Int):List TUnit->List ((Int×aP)×Bool)->Bool
 |[],_=>true
 |k::r,m=>jV pk k.kind&&(aj (OH nQ (k.kind,k.label) m)&&m5 pk r (fC nQ (k.kind,k.label) true m))
def mV(u:TUnit):Bool:=(bif ab u.kind 0 then dP u.label []&&aj (au 0 (.ofNat (u.head.length+u.words.length)))else aj (dP (dQ u.kind) [])&&(kz u.label&&(oO u.head&&oO u.words)))&&(m5 u.kind u.kids []&&aj (au 64 (.ofNat u.kids.length)))
def wX(q:TUnit->Bool)(u:TUnit):Bool:=(bU u).all q
theorem yk(q:TUnit->Bool)(u:TUnit):wX q u=(q u&&(dZ u.kids).all q):=by grind[wX,ch]
theorem Of(q:TUnit->Bool):(dZ []).all q=true:=by rw[eH];rfl
theorem BW(q:TUnit->Bool)(k:TUnit)(r:List TUnit):(dZ (k::r)).all q=(wX q k&&(dZ r).all q):=by rw[bw,List.all_append];rfl
def Cq(l:List PId)(m:List (PId×Bool)):List (PId×Bool):=l.foldl (fun m p=>fC bW p true m) m
def bM:PId:=⟨0,0,0⟩
def Q1(u:TUnit):Bool:=(OH bW bM (Cq (cH u) [])&&ab (.ofNat (Cq (cH u) []).length) 1)||(ab (.ofNat (Cq (cH u) []).length) (.ofNat (cH u).length)&&(ab u.kind 0==fD bM u))
def kL(u:TUnit):Bool:=wX mV u&&(aj (au 8 (.ofNat (nJ u)))&&(aj (au 1024 (.ofNat (nU u)))&&Q1 u))
theorem bv{u k:TUnit}(h:k∈u.kids){x:TUnit}(hx:x∈bU k):x∈bU u:=by
 rw[ch];refine eG _ ?_;generalize u.kids=l at h;induction l with
 |nil=>grind
 |cons y r ih=>grind[bw]
theorem cS(u:TUnit):u∈bU u:=by grind[ch]
theorem Ln{u k:TUnit}(h:k∈u.kids):k∈bU u:=bv h (cS k)
end Go.Ev
namespace Go.Ev
open Go
def dU{α:Type}(q:α->α->Bool):List α->List α->Bool
 |[],[]=>true
 |x::l,y::m=>q x y&&dU q l m
 |_,_=>false
theorem oh{α:Type}{q:α->α->Bool}:∀{l m:List α},l.length≠m.length->dU q l m=false
 |[],[],h=>absurd rfl h
 |[],y::m,_=>rfl
 |x::l,[],_=>rfl
 |x::l,y::m,h=>by
  unfold dU;rw[oh (l:=l) (m:=m) (fun e=>h (by simp[e]))];exact yh _
section
variable{α:Type}[Inhabited α]{q:α->α->Bool}{l m x r:List α}{w:α}{j:Nat}
theorem yq{m:List α}{j:Nat}(h:j<m.length):m.drop j=gD m j::m.drop (j+1):=by grind[List.drop_eq_getElem_cons,gD]
theorem lj(h1:l.drop j=x)(h2:x=w::r)(hl:l.length=m.length)(h3:dU q l m=dU q (w::r) (m.drop (l.length-(w::r).length))):dU q l m=(q w (gD m j)&&dU q r (m.drop (l.length-r.length))):=by
 have e:=congrArg List.length (h1.trans h2);simp only[yd,cO]at e;rw[h3,(ou h1 h2).1,(ou h1 h2).2,yq (by omega),dU]
omit [Inhabited α]in
theorem qL(hl:l.length=m.length)(h3:dU q l m=dU q [] (m.drop (l.length-([]:List α).length))):dU q l m=true:=by rw[h3,gp,Nat.sub_zero,hl,List.drop_length];rfl
end
def OL(a b:PWord):Bool:=dP a.text b.text&&(ab a.act b.act&&(ab a.item b.item&&ab a.at_ b.at_))
mutual
def OQ:TUnit->TUnit->Bool
 |⟨a,i,n,k,l,h,w,ks⟩,v=>bW ⟨a,i,n⟩ (aI v)&&(ab k v.kind&&(dP l v.label&&(dU OL h v.head&&(dU OL w v.words&&N9 ks v.kids))))
def N9:List TUnit->List TUnit->Bool
 |[],[]=>true
 |k::r,[]=>false
 |k::r,x::s=>OQ k x&&N9 r s
 |[],x::s=>false
end
theorem Xs(u v:TUnit):OQ u v=(bW (aI u) (aI v)&&(ab u.kind v.kind&&(dP u.label v.label&&(dU OL u.head v.head&&(dU OL u.words v.words&&dU OQ u.kids v.kids))))):=by
 have key:∀(l m:List TUnit),N9 l m=dU OQ l m:=by
  intro l;induction l with
  |nil=>intro m;cases m<;>(rw[N9];rfl)
  |cons x l ih=>intro m;cases m with|nil=>rw[N9];rfl|cons y m=>rw[N9,ih];rfl
 cases u
 rw[OQ,key];rfl
def Ix(u v:AV):Prop:=(Sc v->Sc u)/\Les u.cells v.cells
theorem Ix.refl(v:AV):Ix v v:=⟨id,Les.refl _⟩
theorem Ix.one{u v:AV}(hu:u.cells=[u])(hv:v.cells=[v])(hs:cL u=true)(h:Le u v):Ix u v:=⟨fun _ y hy=>by simp_all,by rw[hu,hv];exact .cons h .nil⟩
inductive LesC:List AV->List AV->Prop
 |nil:LesC [] []
 |cons {u v:AV} {us vs:List AV} (h:Ix u v) (k:LesC us vs):LesC (u::us) (v::vs)
theorem LesC.len{us vs:List AV}(h:LesC us vs):us.length=vs.length:=by
 induction h with
 |nil=>rfl
 |cons _ _ ih=>simp_all
theorem LesC.at_{us vs:List AV}(h:LesC us vs):∀(j:Nat)(u:AV),us[j]?=some u->∃v,vs[j]?=some v/\Ix u v:=by
 induction h with
 |nil=>simp_all
 |cons h k ih=>grind
theorem E1{xs ys:List AV}{t:Bool}(h:LesC xs ys):Le (.ps xs false) (.ps ys t):=fun pl M v hv=>by
 cases hv with
 | @ps _ _ a cap sz c hl ht hm hs hc=>
  rw[<-h.len];refine .ps (sz:=sz) (c:=c) (by rw[h.len];omega) (fun h=>by grind) (fun hx=>?_) (fun x hx=>?_) fun i x j y hx hy=>?_
  ·have:ys≠[]:=fun e=>hx (rN (by rw[h.len,e];rfl))
   rw[h.len];simp_all
  ·obtain⟨i,hi⟩:=BO hx;obtain⟨y,h1,h2,h3⟩:=h.at_ i x hi;have:=hs y (bh h1);exact⟨h3.len.trans this.1,h2 this.2⟩
  ·obtain⟨z,h1,_,h3⟩:=h.at_ i x hx;obtain⟨d,h4,h5⟩:=h3.at_ j y hy;exact h5 _ _ _ (hc i z j d h1 h4)
theorem YW{xs ys:List AV}{t:Bool}(h:LesC xs ys)(h0:aq xs=0):Le (.ls xs) (.ps ys t):=fun pl M v hv=>.lsp (E1 h pl M v hv) h0
theorem YJ{xs ys:List AV}(h:LesC xs ys)(h0:aq xs=0):Le (.ls xs) (.ls ys):=fun pl M v hv=>by
 cases hv with
 |lsn=>cases h;exact .lsn
 |lsp hv _=>exact .lsp (E1 h pl M v hv) h0
theorem Le.pls{x:AV}{xs ys:List AV}(h:LesC (x::xs) ys):Le (.ps (x::xs) false) (.ls ys):=fun pl M v hv=>by
 cases hv with
 |lsn=>cases h
 |lsp hv _=>exact E1 h pl M v hv
mutual
def Bz:AV->AV->Bool
 | .ls xs,.nils=>xs.isEmpty
 | .ls xs,.ps ys _=>kn xs ys&&Nat.beq (aq xs) 0
 | .ls xs,.ls ys=>kn xs ys&&Nat.beq (aq xs) 0
 | .ps (x::xs) false,.ls ys=>kn (x::xs) ys
 | .ps xs false,.ps ys _=>kn xs ys
 | .agg us,.agg vs=>kn us vs&&us.all cL
 |u,v=>AV.same u v
def kn:List AV->List AV->Bool
 |[],[]=>true
 |a::us,b::vs=>Bz a b&&kn us vs
 |_,_=>false
end
theorem Ix.same{u v:AV}(h:AV.same u v=true):Le u v/\Ix u v:=by grind[AV.same_eq,Le.refl,Ix.refl]
mutual
theorem wJ:∀(u v:AV),Bz u v=true->Le u v/\Ix u v:=fun u v h=>by
 unfold Bz at h;split at h
 ·rename_i xs;have e:xs=[]:=by simp_all
  subst e;exact⟨Le.nils,Ix.one rfl rfl rfl Le.nils⟩
 ·rename_i xs ys t;have h:=pB.1 h;have k:=YW (t:=t) (jD xs ys h.1).2 (pC h.2);exact⟨k,Ix.one rfl rfl rfl k⟩
 ·rename_i xs ys;have h:=pB.1 h;have k:=YJ (jD xs ys h.1).2 (pC h.2);exact⟨k,Ix.one rfl rfl rfl k⟩
 ·rename_i x xs ys;have k:=Le.pls (jD (x::xs) ys h).2;exact⟨k,Ix.one rfl rfl rfl k⟩
 ·rename_i xs ys t;have k:=E1 (t:=t) (jD xs ys h).2;exact⟨k,Ix.one rfl rfl rfl k⟩
 ·rename_i us vs;have h:=pB.1 h;have k:=jD us vs h.1;exact⟨aM k.1 h.2,fun _ y hy=>mq.1 h.2 y hy,k.1⟩
 ·exact Ix.same h
theorem jD:∀(us vs:List AV),kn us vs=true->Les us vs/\LesC us vs:=fun us vs h=>by
 unfold kn at h;split at h
 ·exact⟨.nil,.nil⟩
 ·rename_i a us b vs;have h:=pB.1 h;have h1:=wJ a b h.1;have h2:=jD us vs h.2;exact⟨.cons h1.1 h2.1,.cons h1.2 h2.2⟩
 ·grind
end
section
variable{P:Program}{G:eh}{f:FuncId}{a b:List AV}{u v:AV}
theorem aT.args(h:aT P G f a v)(hl:Les a b):aT P G f b v:=fun hp pl M w vs hg hr hv=>h hp pl M w vs hg hr (hv.le hl)
theorem aT.lessB(h:aT P G f a v)(hl:Bz u v=true):aT P G f a u:=h.less (wJ _ _ hl).1
theorem WN(a b:Nat):Ct (.ofNat a) (.ofNat b)=.ofNat (Nat.max a b):=by
 unfold Ct;cases h:au (.ofNat a) (.ofNat b)with
 |true=>
  have h:=ap h;grind
 |false=>
  have h:=aB h;simp_all
theorem LP{xs ys:List AV}{i t:Nat}{r:List (Nat×Nat)}{x y:AV}{c:Bool}(hx:jx xs i=some x)(hy:jx ys i=some y)(h:Ha t x y=some true)(k:vQ xs ys r=some c):vQ xs ys ((i,t)::r)=some c:=by grind[vQ,Rp,vM]
theorem og{xs ys:List AV}{i t:Nat}{r:List (Nat×Nat)}{x y:AV}{e c:Bool}(hx:jx xs i=some x)(hy:jx ys i=some y)(h:Ha t x y=some e)(k:vQ xs ys r=some c):vQ xs ys ((i,t)::r)=some (e&&c):=by
 simp only[vQ,hx,hy,Rp,h];cases e with
 |true=>exact k
 |false=>rfl
theorem Ag{xs ys:List AV}{i t:Nat}{r:List (Nat×Nat)}{x y:AV}{e:Bool}(hx:jx xs i=some x)(hy:jx ys i=some y)(h:Ha t x y=some e)(k:vQ xs ys r=some true):vQ xs ys ((i,t)::r)=some e:=by
 simp only[vQ,hx,hy,Rp,h];cases e with
 |true=>exact k
 |false=>rfl
theorem Rn(a:Int):Ha 1 (.int .i64 a) (.int .i64 a)=some true:=congrArg some (bz a)
theorem yy{d:Option TypeDesc}{n:Nat}{l:List (Nat×Nat)}{xs ys:List AV}{c:Bool}{H:AHeap}(hn:(Nat.beq xs.length n&&Nat.beq ys.length n)=true)(hl:vQ xs ys l=some c):
  bj H (S1 (pR .eql d (some true) (some n) (some l)) (some (.agg xs)) (some (.agg ys)))=some (.val (.bool c) H):=by
 grind[S1,pR,Xu,pX,bj]
theorem yw{d:Option TypeDesc}{n:Nat}{l:List (Nat×Nat)}{xs ys:List AV}{c:Bool}{H:AHeap}(hn:(Nat.beq xs.length n&&Nat.beq ys.length n)=true)(hl:vQ xs ys l=some c):
  bj H (S1 (pR .neq d (some true) (some n) (some l)) (some (.agg xs)) (some (.agg ys)))=some (.val (.bool (!c)) H):=by
 grind[S1,pR,Xu,pX,bj]
def wO:List (FuncId×List AV×AV)->Zt
 |[],_,_,_=>none
 |x::r,g,b,h=>match Nat.beq g x.1 with
  |true=>(match kn x.2.1 b with|true=>some (x.2.2,h)|false=>wO r g b h)
  |false=>wO r g b h
theorem AU:∀{L:List (FuncId×List AV×AV)}{g:FuncId}{h h1:AHeap}{v1:AV},wO L g b h=some (v1,h1)->∃x,x∈L/\g=x.1/\kn x.2.1 b=true/\v1=x.2.2/\h1=h
 |[],_,_,_,_,e=>by grind[wO]
 | x::r,g,h,h1,v1,e=>by
  unfold wO at e;have next:wO r g b h=some (v1,h1)->∃y,y∈x::r/\g=y.1/\kn y.2.1 b=true/\v1=y.2.2/\h1=h:=fun e=>
   let⟨y,k,q⟩:=AU e
   ⟨y,eG _ k,q⟩
  grind[Nat.eq_of_beq_eq_true]
theorem Q3{C:Cfg}{L:List (FuncId×List AV×AV)}(hC:C.hook=wO L)(hL:∀x,x∈L->aT C.P C.G x.1 x.2.1 x.2.2):J4 C:=fun g b hp v1 h1 e pl M w vs hg hr hv=>by
 rw[hC]at e;obtain⟨x,hx,rfl,hl,rfl,rfl⟩:=AU e;rcases hL x hx h1 pl M w vs hg hr (hv.le (jD _ _ hl).1)with⟨k1,k2⟩|⟨cv,w',v2,h2,k1,⟨rfl,rfl⟩,k3⟩
 ·refine .inl ⟨k1,fun cs=>?_⟩;obtain⟨en,w',fr,⟨cv,v2,h2,e1,⟨rfl,rfl⟩,k3⟩,r⟩:=k2 cs;grind
 ·exact .inr ⟨cv,w',k1,k3⟩
def Yu(v:AV):Option (AV×AHeap)->Bool
 |some (u,_)=>Bz v u&&Nat.beq u.top 0
 |none=>false
theorem aT.closed{C:Cfg}{k:Nat}(hG:iL C.G)(ev:cw C.P C.G (io C k))(ht:aq a=0)(h:Yu v (io C k f a AHeap.none)=true):aT C.P C.G f a v:=by
 cases hx:io C k f a AHeap.none with
 |none=>rw[hx]at h;cases h
 |some r=>
  obtain⟨u,h1⟩:=r;rw[hx]at h;have h:=pB.1 h;exact(oH hG ht (pC h.2) ((aF.of ev hx).mono fun v1 _ e=>e.1)).lessB h.1
end
end Go.Ev
namespace Go.Ev
open Go
theorem aT.ls0{P:Program}{G:eh}{f:FuncId}{r:List AV}{v:AV}(h1:aT P G f (.nils::r) v)(h2:aT P G f (.ps [] false::r) v):aT P G f (.ls []::r) v:=fun h=>E4 (fun _ _ _ hv=>VRels.first hv fun _ hv=>hv.ls0) (h1 h) (h2 h)
theorem Rd{p:PId}{u:TUnit}(h:bp p u=true):bT p u∈aC p u:=by
 unfold bT;rw[h];have:=qW.2 (jg h);grind[gY]
theorem Sr:∀(u:TUnit),ny u=(bU u).flatMap nr:=by
 refine TUnit.ind fun u ih=>?_
 rw[MU,ch,BD];congr 1;have key:∀(l:List TUnit),(∀k,k∈l->k∈u.kids)->kG l=(dZ l).flatMap nr:=by
  intro l;induction l with
  |nil=>intro _;rw[Dc,eH];rfl
  |cons k r ihr=>grind[s8,bw]
 simp_all
theorem PW{p:PId}:∀(u:TUnit),bp p u=true->aI (bT p u)=p:=by
 refine TUnit.ind fun u ih h=>?_
 unfold bT;rw[h];simp only[cond_true];cases hh:fD p u with
 |true=>rw[tU hh];exact yY hh
 | false=>
  have key:∀(r:List TUnit),(∀k,k∈r->k∈u.kids)->b9 p r≠[]->aI (gD (b9 p r) ((b9 p r).length -1))=p:=by
   intro r;induction r with
   |nil=>grind[jG]
   |cons k r ihr=>grind[mE,bT,gv]
  have k2:=key u.kids fun _ h=>h
  obtain⟨y,t,e⟩:=vG h;rw[ft,hh]at e ⊢;grind[gD]
theorem re{p:PId}:∀(u:TUnit),(∃x,x∈bU u/\aI x=p)->bp p u=true:=by
 refine TUnit.ind fun u ih ⟨x,hx,hp⟩=>?_
 cases hh:fD p u with
 |true=>grind[Ez]
 | false=>
  rw[ch]at hx;rcases eu.1 hx with rfl|hx
  ·simp_all[fD,ip]
  ·have key:∀(l:List TUnit),(∀k,k∈l->k∈u.kids)->x∈dZ l->b9 p l≠[]:=by
    intro l;induction l with
    |nil=>grind[eH]
    |cons k r ihr=>grind[bw,bp,mE,gv]
   grind[bp,ft]
theorem Cr{α β:Type}{f:α->β}:∀{l:List α},(l.map f).Nodup->∀{x y:α},x∈l->y∈l->f x=f y->x=y
 | a::l,h,x,y,hx,hy,e=>by
  rw[eb,List.nodup_cons]at h;rcases eu.1 hx with h1|h1
  ·grind
  ·rcases eu.1 hy with h2|h2
   ·simp_all
   ·exact Cr h.2 h1 h2 e
theorem C8{K V:Type}{kenc:K->AV}{f:V->AV}:∀(l:List (K×V))(i:Nat),(bo kenc f l i).length=l.length
 |[],_=>rfl
 |(k,v)::r,i=>by rw[bo,cO,C8 r,cO]
theorem M9(m:List (PId×Bool)):Cq [] m=m:=rfl
theorem Rt{n:Nat}(h:0<n):ab (Int.ofNat n) 0=false:=by grind[nH]
def C1(p:PId):TUnit->Option TUnit:=fun u=>(bU u).find? (fD p)
theorem SP{p:PId}:∀(u:TUnit),(bp p u=true->C1 p u=some (bT p u))/\(bp p u=false->C1 p u=none):=by
 refine TUnit.ind fun u ih=>?_
 unfold C1;rw[ch];cases hh:fD p u with
 |true=>
  rw[List.find?_cons_of_pos (by omega)];refine⟨fun h=>?_,fun h=>by grind[Ez]⟩;unfold bT;rw[h,tU hh];rfl
 | false=>
  rw[List.find?_cons_of_neg (by simp_all)];have key:∀(r:List TUnit),(∀k,k∈r->k∈u.kids)->(b9 p r≠[]->(dZ r).find? (fD p)=some (gD (b9 p r) ((b9 p r).length -1)))/\(b9 p r=[]->(dZ r).find? (fD p)=none):=by
   intro r;induction r with
   |nil=>grind[jG,eH]
   |cons k r ihr=>
    intro hm;have ik:=ih k (hm k (eF ..));have ir:=ihr fun z hz=>hm z (eG _ hz)
    rw[bw,List.find?_append];cases hk:bp p k with
    |true=>grind[C1,mE,jg,bT]
    |false=>grind[C1,gv]
  have k2:=key u.kids fun _ h=>h
  refine⟨fun h=>?_,fun h=>?_⟩
  ·obtain⟨y,t,e⟩:=vG h;unfold bT;rw[h,ft,hh];rw[ft,hh]at e;grind[gD]
  ·have e:=Ax h;grind[ft]
theorem fh(p:PId)(u:TUnit):fD p u=true↔aI u=p:=⟨yY,fun h=>by simp_all[fD,ip]⟩
theorem I3{y x:TUnit}:∀(u:TUnit),y∈bU u->x∈bU y->x∈bU u:=by
 refine TUnit.ind fun u ih h hx=>?_
 rw[ch]at h ⊢;rcases eu.1 h with rfl|h
 ·grind[ch]
 ·refine eG _ ?_;have key:∀(l:List TUnit),(∀k,k∈l->k∈u.kids)->y∈dZ l->x∈dZ l:=by
   intro l;induction l with
   |nil=>grind[eH]
   |cons k r ihr=>grind[bw]
  simp_all
theorem dl{y x u:TUnit}(h:y∈bU u)(hx:x∈bU y):x∈bU u:=I3 u h hx
theorem PL{x:TUnit}:∀(u:TUnit),x∈bU u->nU x<=nU u:=by
 refine TUnit.ind fun u ih h=>?_
 rw[ch]at h;rcases eu.1 h with rfl|h
 ·omega
 ·have key:∀(l:List TUnit),(∀k,k∈l->k∈u.kids)->x∈dZ l->nU x<nU u:=by
   intro l;induction l with
   |nil=>grind[eH]
   |cons k r ihr=>grind[bw,Nat.lt_of_le_of_lt,ig]
  grind
theorem dA{x u:TUnit}(h:x∈bU u):nU x<=nU u:=PL u h
section
variable{p:PId}{u w:TUnit}{r:List TUnit}
end
def ka(a b:PStep):Bool:=ab a.kind b.kind&&dP a.label b.label
mutual
def Eb:PItem->PItem->Bool
 |⟨k,a,t,w,n,u,o,ne,l,f,s,ac,im,d,e,bs⟩,v=>
  (ab k v.kind&&(ab w v.where_&&(ab n v.nth_&&(ab ac v.act&&(ab im v.item&&ab d v.day)))))
  &&((dP l v.label&&(dP f v.for_&&(dP e v.event&&(ab s.kind v.start.kind&&(ab s.day v.start.day&&dP s.event v.start.event)))))
  &&((dU ka a v.at_&&(dU ka t v.to&&(dU dP o v.old&&dU dP ne v.new)))
  &&(OQ u v.unit&&C4 bs v.by_)))
def C4:List PItem->List PItem->Bool
 |[],[]=>true
 |k::r,[]=>false
 |k::r,x::s=>Eb k x&&C4 r s
 |[],x::s=>false
end
theorem Rs:∀(l m:List PItem),C4 l m=dU Eb l m:=by
 intro l;induction l with
 |nil=>intro m;cases m<;>(rw[C4];rfl)
 |cons x l ih=>intro m;cases m with|nil=>rw[C4];rfl|cons y m=>rw[C4,ih];rfl
theorem UL(u v:PItem):Eb u v=((ab u.kind v.kind&&(ab u.where_ v.where_&&(ab u.nth_ v.nth_&&(ab u.act v.act&&(ab u.item v.item&&ab u.day v.day)))))
  &&((dP u.label v.label&&(dP u.for_ v.for_&&(dP u.event v.event&&(ab u.start.kind v.start.kind&&(ab u.start.day v.start.day&&dP u.start.event v.start.event)))))
  &&((dU ka u.at_ v.at_&&(dU ka u.to v.to&&(dU dP u.old v.old&&dU dP u.new v.new)))
  &&(OQ u.unit v.unit&&dU Eb u.by_ v.by_)))):=by
 cases u
 rw[Eb,Rs];rfl
noncomputable def D0(s:aP):Bool:=aj (au (.ofNat s.length) 1)&&(aj (au 16 (.ofNat s.length))&&(aj (au (.ofNat (gD s 0).toNat) 97)&&(aj (au 122 (.ofNat (gD s 0).toNat))&&dP (Lib.trimS s [97,98,99,100,101,102,103,104,105,106,107,108,109,110,111,112,113,114,115,116,117,118,119,120,121,122,48,49,50,51,52,53,54,55,56,57,45]) [])))
def rp(n:Bool)(s:PStart):Bool:=bif ab s.kind 0||ab s.kind 2 then ab s.day 0&&dP s.event []else bif ab s.kind 1 then(aj (au s.day 0)&&aj (au 1048576 s.day))&&dP s.event []else bif ab s.kind 3 then ab s.day 0&&n else false
def bu(s:PStep)(u:TUnit):Bool:=ab u.kind s.kind&&dP u.label s.label
def gy:List PStep->List TUnit->List TUnit
 |[],l=>l
 |s::r,l=>gy r (l.flatMap fun x=>x.kids.filter (bu s))
def dO(u:TUnit)(p:List PStep):List TUnit:=bif kH p then(match p with
 |[]=>[u]
 |s::r=>gy r (bif na s then[u]else(bU u).filter (bu s)))else[]
noncomputable def ar(u:TUnit)(p:List PStep):PId×Int:=match dO u p with
 |[]=>(bM,7)
 |[x]=>(aI x,0)
 |_=>(bM,8)
def jU(p:PId)(u:TUnit):Bool:=aj (au (.ofNat (aC p u).length) 2)
noncomputable def Ie(p:PId)(u:TUnit):TUnit:=gD (aC p u) ((aC p u).length -2)
noncomputable def rE(p:PId)(u:TUnit):PId:=bif jU p u then aI (Ie p u)else bM
noncomputable def qg(p:PId)(u:TUnit):Int:=bif jU p u then dn (bp p) (Ie p u).kids 0 else -1
def mg(p:PId)(u:TUnit):List PId:=(((aC p u).take ((aC p u).length -1)).map aI).reverse
structure PSpot where
 id:PId
 at_:Int
 deriving Inhabited
noncomputable def fU(s:PSpot):AV:=.agg [.int .i64 s.id.a,.int .i64 s.id.i,.int .i64 s.id.n,.int .i64 s.at_]
def dF:PSpot:=⟨bM,0⟩
noncomputable def ki(u:TUnit)(p:PId)(n:Int):PSpot×Int:=bif jU p u then(⟨rE p u,qg p u+n⟩,0)else(dF,9)
noncomputable def cq(w:Int)(u:TUnit)(p:PId):PSpot×Int:=bif ab w 0 then(⟨p,0⟩,0)else bif ab w 1 then(⟨p,.ofNat (bT p u).kids.length⟩,0)else bif ab w 2 then ki u p 1 else ki u p 0
def ia(n:Int):Bool:=aj (au n 0)&&aj (au 3 n)
def cA(act item:Int):List aP->Nat->List PWord
 |[],_=>[]
 |s::r,n=>⟨s,act,item,.ofNat n⟩::cA act item r (n+1)
def bP(l:List PWord):List aP:=l.map fun w=>w.text
theorem fS(a i:Int):∀(l:List aP)(n:Nat),(cA a i l n).length=l.length
 |[],_=>rfl
 |s::r,n=>by rw[cA,cO,fS a i r,cO]
mutual
def cD(a i:Int):TUnit->Nat->Nat->TUnit
 |⟨_,_,_,k,l,h,ws,ks⟩,n,w=>⟨a,i,.ofNat (n+1),k,l,cA a i (bP h) w,cA a i (bP ws) (w+h.length),fJ a i ks (n+1) (w+h.length+ws.length)⟩
def fJ(a i:Int):List TUnit->Nat->Nat->List TUnit
 |[],_,_=>[]
 |k::r,n,w=>cD a i k n w::fJ a i r (n+nU k) (w+(ny k).length)
end
theorem CY(a i:Int)(u:TUnit)(n w:Nat):cD a i u n w=⟨a,i,.ofNat (n+1),u.kind,u.label,cA a i (bP u.head) w,cA a i (bP u.words) (w+u.head.length),fJ a i u.kids (n+1) (w+u.head.length+u.words.length)⟩:=by cases u;rw[cD];rfl
theorem Fp(a i:Int)(n w:Nat):fJ a i [] n w=[]:=by rw[fJ]
theorem Dp(a i:Int)(k:TUnit)(r:List TUnit)(n w:Nat):fJ a i (k::r) n w=cD a i k n w::fJ a i r (n+nU k) (w+(ny k).length):=by rw[fJ]
def vi(part:List aP):Nat->List aP->Nat->List Nat
 |0,_,_=>[]
 |f+1,l,i=>bif Nat.ble (i+part.length) l.length then(bif dU dP ((l.drop i).take part.length) part then i::vi part f l (i+part.length)else vi part f l (i+1))else[]
def uQ(l part:List aP):List Nat:=bif part.isEmpty then[]else vi part (l.length+1) l 0
end Go.Ev
