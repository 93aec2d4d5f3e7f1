/- An abstract machine for runs of the program, proved sound against the model: part 6. No conditions. -/
import Derived.Test.YtdhkhecalpkngaaGreatDoorMach5
import Derived.Shelf.SortM.Plain
import Derived.Shelf.SortM.SortNone
import Derived.Shelf.SlSortCmp.NoneTotal
import Derived.Shelf.SlicesG.CompactI
import Derived.Lib.QuietBelow
import GoSem.ClaimJoined
import Derived.Calls
import Derived.RunT
import Derived.Below
import Derived.Shelf.Strings.FuncGrows
import Derived.Laws.RangeAny
import Derived.Lib.Join
import Derived.Lib.Repeat
import Derived.Lib.SlTrimSet
namespace Go.Ev
open Go Go.Sort Go.Proofs
section
variable{P:Program}{G:fy}{pl:Pl}{M:dT}{h:AHeap}{w w':World}
theorem uv(hr:cN pl M h w){id:Nat}{p:Place}{sz:Nat}{op:Bool}{ep:Nat}{xs xs':List AV}{c c':Array Value}{t:TypeId}(hp:pl id=some p)(hg:h.get id=some (.row sz op ep xs))
  (hb:w.heap[p.blk]?=some (.cells c t (0,0)))(hw:w'.heap[p.blk]?=some (.cells c' t (0,0)))(hcs:c'.size=c.size)(hlen:xs'.length=xs.length)(hel:∀x,x∈xs'->x.cells.length=sz/\Sc x)
  (hcell:∀i x j y,xs'[i]?=some x->x.cells[j]?=some y->VRel pl M y (c'.getD (i*sz+j) undef))(hs:WSame w w')(hsz:w.heap.size<=w'.heap.size)(hk:∀b,b<w.heap.size->b≠p.blk->w'.heap[b]?=w.heap[b]?):
  cN pl M (h.put id (.row sz op ep xs')) w'/\dQ h pl M w (h.put id (.row sz op ep xs')) pl M w':=by
 have ho:=hr.obj id p _ hp hg;rw[hb]at ho;simp only[bm]at ho;obtain⟨h1,h2,h3,h4,h5,h6,h7,h8⟩:=ho;have e:=tY (pl:=pl) hp;have:=cN.change (p':=p) (o':=.row sz op ep xs') hr hp hg (.inl rfl) hs hsz hk (.inl rfl) (sI.1 hw).1 (by
  rw[e,hw];simp only[bm];refine⟨h1,h2,by omega,by omega,trivial,h6,fun e=>by simp_all,⟨?_,hel,fun i x j y q1 q2=>?_⟩⟩
  ·grind[cases InMem]
  simp_all)
 simp_all
variable{β:Type}[Inhabited β]
theorem rn{enc:β->Value}{blk off n:Nat}{d:Array β}{os:Array Obj}{c:Array Value}{t:TypeId}{fr:Nat×Nat}(hb:w.heap[blk]?=some (.cells c t fr)):
  (grow (putRow enc (Sort.ahead w n) blk off d) os).heap[blk]?=some (.cells (putCells enc off d c) t fr):=by
 grind[grow,putRow,mapBlock,Sort.ahead,onCells]
theorem kS{enc:β->Value}{blk off n:Nat}{d:Array β}{os:Array Obj}{b:Nat}(hb:b<w.heap.size)(hne:b≠blk):
  (grow (putRow enc (Sort.ahead w n) blk off d) os).heap[b]?=w.heap[b]?:=by
 simp only[grow,putRow,mapBlock,Sort.ahead];grind
theorem od{enc:β->Value}{blk off n:Nat}{d:Array β}{os:Array Obj}:WSame w (grow (putRow enc (Sort.ahead w n) blk off d) os):=⟨rfl,rfl,rfl,Nat.le_add_right _ _⟩
theorem Cv{enc:β->Value}{blk off n:Nat}{d:Array β}{os:Array Obj}:w.heap.size<=(grow (putRow enc (Sort.ahead w n) blk off d) os).heap.size:=by simp_all
theorem oy{enc:β->Value}{d:Array β}{c:Array Value}{k:Nat}(hk:k<d.size)(hc:k<c.size):(putCells enc 0 d c).getD k undef=enc d[k]!:=by simp_all[putCells]
theorem rZ(hr:cN pl M h w){id ep len sz:Nat}{op:Bool}{cap:Option Nat}{xs:List AV}{x:Value}(hv:VRel pl M (.slice id ep 0 len cap) x)(hg:h.get id=some (.row sz op ep xs))(hl:0<len):
  ∃p c t cap',pl id=some p/\w.heap[p.blk]?=some (.cells c t (0,0))/\x=.slice (some ⟨p.blk,0,none⟩) len cap'/\InMem pl M c 0 sz xs/\0<sz/\p.blk<w.heap.size:=by
 cases hv with
 | slice hp he hle hk ha=>
  rename_i cap' a p;have ho:=hr.obj id p _ hp hg;cases hb:w.heap[p.blk]? with
  |none=>grind[bm]
  |some ob=>
   rw[hb]at ho;cases ob<;>simp only[bm]at ho
   rename_i c t fr;obtain⟨h1,h2,h3,h4,h5,h6,h7,h8⟩:=ho;subst h5;obtain⟨k1,_⟩:=ha (by omega);have k2:a=⟨p.blk,0,none⟩:=by grind
   exact⟨p,c,t,_,hp,hb,by rw[k2],h8,h6,(sI.1 hb).1⟩
def ec(zs:List Int):List Int:=zs.mergeSort fun x y=>decide (x<=y)
theorem lf(zs:List Int):(ec zs).Perm zs:=List.mergeSort_perm ..
theorem Ea(zs:List Int):(ec zs).Pairwise (fun a b=>a<=b):=by
 have:=List.pairwise_mergeSort (le:=fun x y:Int=>decide (x<=y)) (by grind) (by grind) zs;exact this.imp (by simp)
theorem De{c:Array Value}{sz:Nat}{xs:List AV}(hm:InMem pl M c 0 sz xs){i:Nat}{x:AV}(hx:xs[i]?=some x){j:Nat}(hj:j<sz):i*sz+j<c.size/\∃y,x.cells[j]?=some y/\VRel pl M y (c.getD (i*sz+j) undef):=by
 have h1:=hm.fit;have hi:=(gZ.1 hx).1;have h2:=(hm.elem x (bH hx)).1;have h3:(i+1)*sz<=xs.length*sz:=fV _ hi;rw[kW]at h3;refine⟨by omega,x.cells[j],by simp_all,?_⟩;have:=hm.cell i x j _ hx (mn (by omega:j<x.cells.length));simp_all
theorem CK{f:FuncId}(hE:∀vs w,(callFunc f vs).run P w=.ok (.enter f vs) w)
  (hC:∀(blk off cap:Nat)(zs:List Int)(w:World),Holds (Value.int .i64) w blk off zs.toArray->blk<w.heap.size->zs.length<4611686018427387904->
   Calls P f #[.slice (some ⟨blk,off,none⟩) zs.length cap] w fun e w'=>e=.returned (.tuple #[])/\∃n os,w'=grow (putRow (Value.int .i64) (Sort.ahead w n) blk off (zs.mergeSort fun x y=>decide (x<=y)).toArray) os)
  {id ep:Nat}{op:Bool}{cap:Option Nat}(zs:List Int)(hg:h.get id=some (.row 1 op ep (zs.map bM)))(hz:0<zs.length)(hb:zs.length<4611686018427387904):
  aN P G f [.slice id ep 0 zs.length cap] h (fun v h'=>v=.tuple []/\h'=h.put id (.row 1 op ep ((ec zs).map bM))):=by
 intro pl M w vs hG hr hv;obtain⟨a,rfl,hv1⟩:=TV hv;obtain⟨p,c,t,cap',hp,hbl,rfl,hm,_,hlt⟩:=rZ hr hv1 hg hz;have hcell:∀j z,zs[j]?=some z->j<c.size/\c.getD j undef=.int .i64 z:=by
  intro j z hj;have hx:(zs.map bM)[j]?=some (bM z):=by simp_all
  obtain⟨q1,y,q2,q3⟩:=De hm hx (j:=0) (by omega);rw[Nat.mul_one,qj]at q1 q3;simp[bM,AV.cells]at q2;subst q2;refine⟨q1,?_⟩;cases hq:c.getD j undef<;>rw[hq]at q3<;>cases q3
  rfl
 refine .inl ⟨hE _ _,Calls.mono (hC p.blk 0 cap' zs w (fun j hj=>?_) hlt hb) fun e w' ⟨he,n,os,hw⟩=>?_⟩
 ·have hj':j<zs.length:=by omega
  obtain⟨q1,q2⟩:=hcell j zs[j] (mn hj');rw[gn];refine⟨?_,?_⟩
  ·simp only[World.cell?,hbl];simp only[Option.isSome_none,gP,if_false];rw[F2 q1];simp_all
  grind[World.frozen?]
 ·refine⟨.tuple #[],.tuple [],_,he,⟨rfl,rfl⟩,pl,M,rR,?_⟩;have hlen:(ec zs).length=zs.length:=(lf zs).length_eq;have hw1:w'.heap[p.blk]?=some (.cells (putCells (Value.int .i64) 0 (ec zs).toArray c) t (0,0)):=by rw[hw];exact rn hbl
  obtain⟨r1,r2⟩:=uv (w':=w') (xs':=(ec zs).map bM) hr hp hg hbl hw1 (by simp[putCells]) (by simp_all) (fun x hx=>by
    obtain⟨z,_,rfl⟩:=gO.1 hx;exact⟨rfl,fun y hy=>by simp[bM,AV.cells]at hy;subst hy;rfl⟩) (fun i x j y q1 q2=>by
    rw[qO]at q1;obtain⟨z,e1,rfl⟩:=F1.1 q1;have hi:=(gZ.1 e1).1;cases j with
    |succ j=>grind[bM,AV.cells]
    |zero=>
     simp[bM,AV.cells]at q2;subst q2;rw[Nat.mul_one,qj,oy (by omega) (hcell i zs[i] (mn (by omega))).1];have:(ec zs).toArray[i]! =z:=by simp_all
     rw[this];exact .int _ _) (by grind[od]) (by simp_all) (fun b hb hne=>by grind[kS])
  exact⟨r1,r2,af _⟩
def bi(zs:List Int):List Int:=Lib.compact zs
theorem yX(zs:List Int):(bi zs).length<=zs.length:=by grind[bi,Lib.compact,Lib.compactUpTo]
theorem wL{f:FuncId}(hE:∀vs w,(callFunc f vs).run P w=.ok (.enter f vs) w)
  (hC:∀(blk off cap:Nat)(zs:List Int)(w:World),Holds (Value.int .i64) w blk off zs.toArray->zs.length<=9223372036854775807->zs.length<=cap->
   Calls P f #[.slice (some ⟨blk,off,none⟩) zs.length cap] w fun e w'=>e=.returned (.slice (some ⟨blk,off,none⟩) (Lib.compact zs).length cap)/\∃q,w'=putRow (Value.int .i64) (Sort.ahead w q) blk off (Lib.compact zs++List.replicate (zs.length-(Lib.compact zs).length) 0).toArray)
  {id ep:Nat}{op:Bool}(zs:List Int)(hg:h.get id=some (.row 1 op ep (zs.map bM)))(hz:0<zs.length)(hb:zs.length<4611686018427387904):
  aN P G f [.slice id ep 0 zs.length none] h (fun v h'=>v=.slice id ep 0 (bi zs).length none/\h'=h.put id (.row 1 op ep ((bi zs++List.replicate (zs.length-(bi zs).length) 0).map bM))):=by
 intro pl M w vs hG hr hv;obtain⟨a,rfl,hv1⟩:=TV hv;obtain⟨p,c,t,cap',hp,hbl,rfl,hm,_,hlt⟩:=rZ hr hv1 hg hz;have hcell:∀j z,zs[j]?=some z->j<c.size/\c.getD j undef=.int .i64 z:=by
  intro j z hj;have hx:(zs.map bM)[j]?=some (bM z):=by simp_all
  obtain⟨q1,y,q2,q3⟩:=De hm hx (j:=0) (by omega);rw[Nat.mul_one,qj]at q1 q3;simp[bM,AV.cells]at q2;subst q2;refine⟨q1,?_⟩;cases hq:c.getD j undef<;>rw[hq]at q3<;>cases q3
  rfl
 have hle:=yX zs;have hcap:zs.length<=cap':=by grind[cases VRel]
 generalize hnew:bi zs++List.replicate (zs.length-(bi zs).length) 0=ns;have hnl:ns.length=zs.length:=by grind
 refine .inl ⟨hE _ _,Calls.mono (hC p.blk 0 cap' zs w (fun j hj=>?_) (by omega) hcap) fun e w' ⟨he,n,hw⟩=>?_⟩
 ·have hj':j<zs.length:=by omega
  obtain⟨q1,q2⟩:=hcell j zs[j] (mn hj');rw[gn];refine⟨?_,?_⟩
  ·simp only[World.cell?,hbl];simp only[Option.isSome_none,gP,if_false];rw[F2 q1];simp_all
  grind[World.frozen?]
 ·have hw2:w'=grow (putRow (Value.int .i64) (Sort.ahead w n) p.blk 0 ns.toArray) #[]:=by rw[hw,grow_empty];congr 2
  have hrel:VRel pl M (.slice id ep 0 (bi zs).length none) (.slice (some ⟨p.blk,0,none⟩) (bi zs).length cap'):=by
   cases hv1 with
   |slice hp he hl hk ha=>
    refine .slice hp he (by omega) hk fun e=>?_
    grind
  refine⟨_,_,_,he,⟨rfl,rfl⟩,pl,M,hrel,?_⟩;have hw1:w'.heap[p.blk]?=some (.cells (putCells (Value.int .i64) 0 ns.toArray c) t (0,0)):=by grind[rn]
  obtain⟨r1,r2⟩:=uv (w':=w') (xs':=ns.map bM) hr hp hg hbl hw1 (by simp[putCells]) (by simp_all) (fun x hx=>by
    obtain⟨z,_,rfl⟩:=gO.1 hx;exact⟨rfl,fun y hy=>by simp[bM,AV.cells]at hy;subst hy;rfl⟩) (fun i x j y q1 q2=>by
    rw[qO]at q1;obtain⟨z,e1,rfl⟩:=F1.1 q1;have hi:=(gZ.1 e1).1;cases j with
    |succ j=>grind[bM,AV.cells]
    |zero=>
     simp[bM,AV.cells]at q2;subst q2;rw[Nat.mul_one,qj,oy (by omega) (hcell i zs[i] (mn (by omega))).1];have:ns.toArray[i]! =z:=by simp_all
     rw[this];exact .int _ _) (by grind[od]) (by simp_all) (fun b hb hne=>by grind[kS])
  exact⟨r1,r2,af _⟩
theorem Eb{f:FuncId}(hE:∀vs w,(callFunc f vs).run P w=.ok (.enter f vs) w)
  (hC:∀(p:Option Addr)(cap:Nat)(w:World),Calls P f #[.slice p 0 cap] w fun e w'=>e=.returned (.tuple #[])/\w'=w):bY P G f [.nils] (.tuple []):=by
 intro h pl M w vs hG hr hv;obtain⟨a,rfl,hv1⟩:=TV hv;cases hv1
 exact .inl ⟨hE _ _,Calls.mono (hC none 0 w) fun e w' ⟨he,hw⟩=>⟨.tuple #[],.tuple [],h,he,⟨rfl,rfl⟩,pl,M,rR,by simp_all[StepF.refl]⟩⟩
theorem wK{f:FuncId}{g:Fn}(hE:∀vs w,(callFunc f vs).run P w=.ok (.enter f vs) w)
  (hC:∀(p:Option Addr)(cap:Nat)(fv:Value)(w:World),Calls P f #[.slice p 0 cap,fv] w fun e w'=>e=.returned (.tuple #[])/\w'=w):bY P G f [.nils,.func g [] []] (.tuple []):=by
 intro h pl M w vs hG hr hv;obtain⟨a,b,rfl,hv1,hv2⟩:=BG hv;cases hv1
 exact .inl ⟨hE _ _,Calls.mono (hC none 0 b w) fun e w' ⟨he,hw⟩=>⟨.tuple #[],.tuple [],h,he,⟨rfl,rfl⟩,pl,M,rR,by simp_all[StepF.refl]⟩⟩
def EL{α:Type}(cmp:α->α->Int)(a b:α):Bool:=decide (cmp a b<0)
theorem CV{f g:FuncId}{sz:Nat}(hGT:jc G)(hE:∀vs w,(callFunc f vs).run P w=.ok (.enter f vs) w)(hg2:∀args w,(callFunc g args).run P w=.ok (.enter g args) w)
  (hC:∀(m:Nat)(enc:Fin (m+1)->List Value)(cf:Fin (m+1)->Fin (m+1)->Int)(blk off cap:Nat)(d:Array (Fin (m+1)))(w:World),(∀x,(enc x).length=sz)->(∀x,∀v∈enc x,v.oneCell'=true)->SWO (ltOf cf)->
   CmpLays P g #[] enc sz cf blk off d.size w->HoldsK enc sz w blk off d->blk<w.heap.size->d.size<4611686018427387904->
   Calls P f #[.slice (some ⟨blk,off,none⟩) d.size cap,.func (.func g) #[] #[]] w fun e w'=>e=.returned (.tuple #[])/\∃d' n os,PermIn 0 d.size d d'/\SortedIn (ltOf cf) 0 d.size d'/\w'=sortWorldK enc sz w blk off n d' os)
  {α:Type}[Inhabited α](enc:α->AV)(cmp:α->α->Int)(hO:SWO (EL cmp))(hag:∀a,∃cs,enc a=.agg cs)(htop:∀a,(enc a).top=0)
  (l:List α)(hcmp:∀a,a∈l->∀b,b∈l->bY P G g [enc a,enc b] (.int .i64 (cmp a b)))
  {oid ep:Nat}{op:Bool}{cap:Option Nat}(hg:h.get oid=some (.row sz op ep (l.map enc)))(hz:0<l.length)(hb:l.length<4611686018427387904):
  aN P G f [.slice oid ep 0 l.length cap,.func (.func g) [] []] h (fun v h'=>∃l':List α,(l'.Perm l/\l'.Pairwise fun a b=>EL cmp b a=false)/\v=.tuple []/\h'=h.put oid (.row sz op ep (l'.map enc))):=by
 intro pl M w vs hG hr hv;obtain⟨a,fv,rfl,hv1,hv2⟩:=BG hv;have e2:=AQ hv2;subst e2;obtain⟨p,c,t,cap',hp,hbl,rfl,hm,hsz0,hlt⟩:=rZ hr hv1 hg hz;obtain⟨m,hm1⟩:∃m,l.length=m+1:=⟨l.length-1,by omega⟩
 have hfit:=hm.fit;rw[cJ,gn,hm1]at hfit;have helem:∀i:Fin (m+1),(l.map enc)[i.1]?=some (enc l[i.1]!):=fun i=>by
  have:=i.2;rw[qO,mn (by omega),getElem!_pos l i.1 (by omega)];rfl
 have hmul:∀i:Fin (m+1),i.1*sz+sz<=(m+1)*sz:=fun i=>by have:=fV sz (Nat.succ_le_of_lt i.2);rwa[qw]at this
 generalize hcof:(fun i:Fin (m+1)=>(List.range sz).map fun j=>c.getD (i.1*sz+j) undef)=cellsOf;have cl:∀i,(cellsOf i).length=sz:=fun i=>by rw[<-hcof];simp
 have cg:∀i j,j<sz->(cellsOf i)[j]?=some (c.getD (i.1*sz+j) undef):=fun i j hj=>by rw[<-hcof];simp[hj]
 generalize hd:(Array.ofFn (n:=m+1) id)=d;have hds:d.size=m+1:=by rw[<-hd];simp
 have hdg:∀j (hj:j<m+1),d[j]! =⟨j,hj⟩:=fun j hj=>by rw[getElem!_pos d j (by omega)];subst hd;simp
 have hflat:∀(dk:Array (Fin (m+1))),dk.size=m+1->∀i j,i<m+1->j<sz->(flatK cellsOf sz dk)[i*sz+j]! =c.getD ((dk[i]!).1*sz+j) undef:=fun dk hdk i j hi hj=>by
  have h1:i*sz+j<dk.size*sz:=by have:=fV sz (Nat.succ_le_of_lt hi);rw[qw]at this;rw[hdk];omega
  rw[get_flatK cellsOf sz dk _ h1];have h2:(i*sz+j)/sz=i:=by rw[Nat.mul_comm,Nat.mul_add_div hsz0,Nat.div_eq_of_lt hj,qj]
  have h3:(i*sz+j)%sz=j:=by rw[Nat.mul_comm,Nat.mul_add_mod,Nat.mod_eq_of_lt hj]
  rw[h2,h3,getElem!_pos _ j (by rw[cl];exact hj)];have:=cg (dk[i]!) j hj;rw[mn (by rw[cl];exact hj)]at this;simpa using this
 have hH:HoldsK cellsOf sz w p.blk 0 d:=by
  intro k hk;rw[size_flatK,hds]at hk;have hi:k/sz<m+1:=Nat.div_lt_of_lt_mul (by rw[Nat.mul_comm];exact hk);have hj:k%sz<sz:=Nat.mod_lt _ hsz0;have hk2:k/sz*sz+k%sz=k:=by rw[Nat.mul_comm];exact Nat.div_add_mod k sz
  have:=hflat d hds (k/sz) (k%sz) hi hj;rw[hdg _ hi,hk2]at this;rw[this,gn];have hkc:k<c.size:=by omega
  refine⟨?_,by simp[World.frozen?,hbl]⟩;simp only[World.cell?,hbl];simp only[Option.isSome_none,gP,if_false];rw[F2 hkc];simp[Array.getD,hkc]
 have hrelE:∀(i:Fin (m+1)) cs,enc l[i.1]! =.agg cs->cs.length=sz/\(∀y,y∈cs->dW y=true)/\∀(j:Nat)(y:AV),cs[j]?=some y->VRel pl M y (c.getD (i.1*sz+j) undef):=by
  intro i cs hcs;have h1:=hm.elem _ (bH (helem i));rw[hcs]at h1;refine⟨h1.1,h1.2,fun j y hj=>?_⟩;have:=hm.cell i.1 _ j y (helem i) (by rw[hcs];exact hj);rwa[gn]at this
 have hone:∀i,∀v∈cellsOf i,v.oneCell'=true:=by
  intro i v hvm;obtain⟨j,hj,e⟩:=zK hvm;rw[cl]at hj;have h1:=cg i j hj;rw[mn (by rw[cl];exact hj),e]at h1;obtain⟨cs,hcs⟩:=hag l[i.1]!;obtain⟨k1,k2,k3⟩:=hrelE i cs hcs;have:=k3 j cs[j] (mn (by omega));cases h1
  exact this.one (k2 _ (EW _))
 have hmemL:∀i:Fin (m+1),l[i.1]!∈l:=fun i=>by
  have:=i.2;rw[getElem!_pos l i.1 (by omega)];exact EW _
 have hlays:CmpLays P g #[] cellsOf sz (fun i j=>cmp l[i.1]! l[j.1]!) p.blk 0 d.size w:=by
  intro n os dk hdk x y;generalize hW:sortWorldK cellsOf sz w p.blk 0 n dk os=W;have hWo:∀b,b<w.heap.size->b≠p.blk->W.heap[b]?=w.heap[b]?:=fun b h1 h2=>by rw[<-hW];exact kS h1 h2
  have hrW:cN (fun _=>none) M AHeap.none W:=rY (pl:=fun _=>none) (n:=0) (g:=AHeap.none.get) ⟨fun _ _ h=>by simp at h,fun _ _ _ h=>by simp at h,fun _ _ h=>by simp at h,fun _ _ _ _ h=>by simp at h,fun b c' hM=>by
   obtain⟨t',fr,q⟩:=hr.imm b c' hM;refine⟨t',fr,?_⟩;rw[hWo b (hr.memLt hM) (fun e=>by have:=hr.sep oid p hp;rw[<-e,hM]at this;cases this)];exact q,fun _ _ h=>by simp at h⟩
  have hrel:∀i:Fin (m+1),VRel (fun _=>none) M (enc l[i.1]!) (.agg (cellsOf i).toArray):=by
   intro i;obtain⟨cs,hcs⟩:=hag l[i.1]!;obtain⟨k1,k2,k3⟩:=hrelE i cs hcs;have ht:=htop l[i.1]!;rw[hcs]at ht ⊢;refine .agg (by simp[cl,k1]) k2 fun j y hj=>?_
   have hj':j<sz:=by rw[<-k1];exact(gZ.1 hj).1
   have e:(cellsOf i).toArray.getD j undef=c.getD (i.1*sz+j) undef:=by
    have:=cg i j hj';rw[iJ,oE,this];rfl
   rw[e];exact(k3 j y hj).none (kn.1 ht y (bH hj))
  have hc:=hcmp _ (hmemL x) _ (hmemL y) AHeap.none (fun _=>none) M W #[.agg (cellsOf x).toArray,.agg (cellsOf y).toArray] (hG.none hGT) hrW ⟨rfl,fun j z hj=>by
   match j,hj with
   |0,hj=>cases hj;exact hrel x
   |1,hj=>cases hj;exact hrel y⟩
  rcases hc with⟨h1,h2⟩|⟨cv,w',v,h',h1,h2,h3⟩
  ·refine Calls.mono h2 fun e w' ⟨cv,v,h',k1,k2,pl',M',k3,k4,k5,k6⟩=>?_
   obtain⟨k2,_⟩:=k2;subst k2;cases k3
   refine⟨k1,?_⟩;obtain⟨q,hq⟩:=regrown_of_below (w:=W) (w':=w') ⟨k5.os,k5.tape,k5.out,k5.size,fun b hb=>k5.kept b hb fun id p h=>by simp at h⟩;refine⟨w'.drawn-W.drawn,q.os,?_⟩;have hd1:w'.drawn=q.d:=by rw[hq];rfl
   have hd2:=k5.drawn;have:redrawn W q.d=W.drewN (w'.drawn-W.drawn):=by
    show({W with drawn:=q.d}:World)={W with drawn:=W.drawn+(w'.drawn-W.drawn)}
    congr 1;omega
   rw[<-this];exact hq
  ·rw[hg2]at h1;cases h1
 refine .inl ⟨hE _ _,?_⟩;have hcall:=hC m cellsOf (fun i j=>cmp l[i.1]! l[j.1]!) p.blk 0 cap' d w cl hone ⟨fun x=>hO.irrefl _,fun x y z=>hO.trans _ _ _,fun x y z=>hO.ntrans _ _ _⟩ hlays hH hlt (by omega);rw[show d.size=l.length by omega]at hcall;refine Calls.mono hcall fun e w' ⟨he,d',n,os,hP,hS,hw⟩=>?_
 obtain⟨hp1,_,hp3⟩:=hP;have hd's:d'.size=m+1:=by omega
 have hperm:d'.toList.Perm d.toList:=by
  have e1:d'.extract 0 l.length=d':=by rw[show l.length=d'.size by omega];exact Array.extract_size
  have e2:d.extract 0 l.length=d:=by rw[show l.length=d.size by omega];exact Array.extract_size
  rwa[e1,e2]at hp3
 have hdl:d.toList.map (fun i=>l[i.1]!)=l:=by
  apply List.ext_getElem?;intro i;by_cases hi:i<l.length
  ·rw[qO,Array.getElem?_toList,F2 (by omega),mn hi];have:=hdg i (by omega);rw[getElem!_pos d i (by omega)]at this;rw[this];show some (l[i]!)=some l[i]
   rw[getElem!_pos l i hi]
  ·rw[List.getElem?_eq_none (by simp;omega),List.getElem?_eq_none (by omega)]
 have hl':(d'.toList.map (fun i=>l[i.1]!)).length=l.length:=by simp;omega
 refine⟨.tuple #[],.tuple [],_,he,⟨d'.toList.map (fun i=>l[i.1]!),⟨?_,?_⟩,rfl,rfl⟩,pl,M,rR,?_⟩
 ·have:=hperm.map (fun i=>l[i.1]!);rwa[hdl]at this
 ·rw[F0];intro i j hi hj hij;have hi':i<d'.size:=by simpa using hi
  have hj':j<d'.size:=by simpa using hj
  have:=hS i j (b8 _) hij (by omega);rw[getElem!_pos d' i hi',getElem!_pos d' j hj']at this;simpa[EL,ltOf]using this
 ·have hw1:w'.heap[p.blk]?=some (.cells (putCells id 0 (flatK cellsOf sz d') c) t (0,0)):=by rw[hw];exact rn hbl
  obtain⟨r1,r2⟩:=uv (w':=w') (xs':=(d'.toList.map (fun i=>l[i.1]!)).map enc) hr hp hg hbl hw1 (by simp[putCells]) (by simp;omega) (fun x hx=>by
    obtain⟨z,h1,rfl⟩:=gO.1 hx;obtain⟨i,_,rfl⟩:=gO.1 h1;exact hm.elem _ (bH (helem i))) (fun i x j y q1 q2=>by
    rw[qO,qO,Array.getElem?_toList]at q1;obtain⟨z,e1,rfl⟩:=F1.1 q1;obtain⟨k,e2,rfl⟩:=F1.1 e1;have hi:i<d'.size:=(sI.1 e2).1;obtain⟨cs,hcs⟩:=hag l[k.1]!;obtain⟨k1,k2,k3⟩:=hrelE k cs hcs;rw[hcs]at q2;have hj:j<sz:=by rw[<-k1];exact(gZ.1 q2).1
    have hb1:i*sz+j<(m+1)*sz:=by have:=fV sz (Nat.succ_le_of_lt (show i<m+1 by omega));rw[qw]at this;omega
    rw[oy (by rw[size_flatK,hd's];exact hb1) (by omega)];have:=hflat d' hd's i j (by omega) hj;have e3:d'[i]! =k:=by rw[getElem!_pos d' i hi];rw[F2 hi]at e2;simpa using e2
    rw[e3]at this;show VRel pl M y (flatK cellsOf sz d')[i*sz+j]!
    rw[this];exact k3 j y q2) (by rw[hw];exact od) (by rw[hw];exact Cv) (fun b hb hne=>by rw[hw];exact kS hb hne)
  exact⟨r1,r2,af _⟩
end
theorem y7(a b:Int):aL (ke a b) 0=aL a b:=by
 unfold ke;cases h:aL a b with
 |true=>rfl
 |false=>cases h2:aL b a<;>rfl
noncomputable def om(l:List PSpan)(d:Int):Nat:=(l.takeWhile fun s=>aL s.from_ d).length
theorem Fw(l:List PSpan)(d:Int):om l d<=l.length:=by
 induction l with
 |nil=>simp[om]
 |cons a r ih=>grind[om,List.takeWhile_cons]
def tW(l:List PSpan):Prop:=l.Pairwise fun a b=>a.from_<=b.from_
theorem Br{d:Int}:∀{l:List PSpan},tW l->∀k,k<l.length->(aL (gD l k).from_ d=true↔k<om l d)
 |[],_,k,h=>by simp_all
 | a::r,hs,k,h=>by
  obtain⟨h1,h2⟩:=lz.1 hs;unfold om;rw[List.takeWhile_cons];cases q:aL a.from_ d with
  | true=>
   simp only[if_true,cO];cases k with
   |zero=>grind[gD]
   |succ k=>
    have:=Br (d:=d) h2 k (by simp_all);rw[show gD (a::r) (k+1)=gD r k from rfl,this];grind[om]
  |false=>
   simp only[gP,if_false,iW,qL,iff_false,Bool.not_eq_true];have hd:=aG q;grind[gc,jI]
noncomputable def J7(l:List PSpan)(d:Int):Bool:=aL (Int.ofNat (om l d)) (Int.ofNat l.length)&&aa (ke (gD l (om l d)).from_ d) 0
theorem Py{l:List PSpan}(h:l.Pairwise fun a b=>a.to<b.from_)(h2:∀s,s∈l->s.from_<s.to):tW l:=by
 induction l with
 |nil=>exact .nil
 |cons a r ih=>
  obtain⟨h3,h4⟩:=lz.1 h;refine lz.2 ⟨fun b hb=>?_,ih h4 fun s hs=>h2 s (dA _ hs)⟩;grind
structure NrmS(l:List PSpan):Prop where
 gap:l.Pairwise fun a b=>a.to<b.from_
 ok:∀s,s∈l->0<=s.from_/\s.from_<s.to/\s.to<=1048577
theorem NrmS.sort{l:List PSpan}(h:NrmS l):tW l:=Py h.gap fun s hs=>(h.ok s hs).2.1
theorem JX:∀{l:List PSpan}{b:Int},l.Pairwise (fun a b=>a.to<b.from_)->(∀s,s∈l->b<=s.from_/\s.from_<s.to/\s.to<=1048577)->b<=1048577->Int.ofNat l.length<=1048577-b
 |[],b,_,_,hb=>by simp_all
 |a::r,b,h,h2,hb=>by
  obtain⟨h3,h4⟩:=lz.1 h;have h5:=h2 a (ef ..);have:=JX (l:=r) (b:=b+1) h4 (fun s hs=>by grind) (by omega);grind
theorem NrmS.len{l:List PSpan}(h:NrmS l):l.length<=1048577:=by
 have:=JX (b:=0) h.gap h.ok (by omega);grind
noncomputable def jU(l:List PSpan)(d:Int):Bool:=J7 l d||(aL 0 (Int.ofNat (om l d))&&aL d (gD l (om l d-1)).to)
theorem EF(a b:Int):DU a b=max a b:=by
 unfold DU;cases h:aL a b with
 |true=>have:=ap h;grind
 |false=>have:=aG h;grind
theorem JS(a b:Int):Oy a b=min a b:=by
 unfold Oy;cases h:aL b a with
 |true=>have:=ap h;grind
 |false=>have:=aG h;grind
noncomputable abbrev WS(s:PSpan):PSpan:=⟨DU s.from_ 0,Oy s.to 1048577⟩
noncomputable abbrev Y7(s:PSpan):Bool:=aL (DU s.from_ 0) (Oy s.to 1048577)
noncomputable def jM:List PSpan->List PSpan
 |[]=>[]
 |s::r=>match Y7 s with|true=>WS s::jM r|false=>jM r
theorem vE{s:PSpan}{r:List PSpan}(h:Y7 s=true):jM (s::r)=WS s::jM r:=by grind[jM]
theorem vF{s:PSpan}{r:List PSpan}(h:Y7 s=false):jM (s::r)=jM r:=by grind[jM]
theorem DL:∀(l:List PSpan),(jM l).length<=l.length
 |[]=>by simp[jM]
 |s::r=>by
  have:=DL r;cases h:Y7 s with
  |true=>grind[vE]
  |false=>grind[vF]
theorem Bs:∀{l:List PSpan}{s:PSpan},s∈jM l->0<=s.from_/\s.from_<s.to/\s.to<=1048577
 | a::r,s,hs=>by
  cases h:Y7 a with
  |true=>
   rw[vE h]at hs;rcases dP.1 hs with e|e
   ·subst e;have h2:=ap h;grind[EF,JS]
   ·exact Bs e
  |false=>rw[vF h]at hs;exact Bs hs
def memB(l:List PSpan)(d:Int):Bool:=l.any fun s=>decide (s.from_<=d/\d<s.to)
def Pd(d:Int):Bool:=decide (0<=d/\d<1048577)
theorem nE(d:Int):memB [] d=false:=rfl
theorem fJ(a:PSpan)(l:List PSpan)(d:Int):memB (a::l) d=(decide (a.from_<=d/\d<a.to)||memB l d):=rfl
theorem Ai(l r:List PSpan)(d:Int):memB (l++r) d=(memB l d||memB r d):=by simp[memB]
theorem jH{l:List PSpan}{d:Int}:memB l d=true↔∃s,s∈l/\s.from_<=d/\d<s.to:=by simp[memB]
theorem Ob{l r:List PSpan}(h:l.Perm r)(d:Int):memB l d=memB r d:=by
 rw[EJ,jH,jH];grind
theorem DI:∀(l:List PSpan)(d:Int),memB (jM l) d=(Pd d&&memB l d)
 |[],d=>by simp[jM,memB]
 | a::r,d=>by
  have ih:=DI r d;have e:∀b:Bool,(b=decide (0<=d/\d<1048577/\a.from_<=d/\d<a.to))->(b||(Pd d&&memB r d))=(Pd d&&memB (a::r) d):=fun b hb=>by grind[fJ,Pd]
  cases h:Y7 a with
  |true=>
   rw[vE h,fJ,ih];refine e _ ?_;simp only[EF,JS];grind
  |false=>
   rw[vF h,ih];have h2:=aG h;simp only[EF,JS]at h2;grind
theorem NrmS.tail{a:PSpan}{r:List PSpan}(h:NrmS (a::r)):NrmS r:=⟨(lz.1 h.gap).2,fun s hs=>h.ok s (dA _ hs)⟩
theorem NrmS.low{a x:PSpan}{r:List PSpan}(h:NrmS (a::r))(hx:x∈r):a.to<x.from_:=(lz.1 h.gap).1 x hx
theorem NrmS.head{a:PSpan}{r:List PSpan}(h:NrmS (a::r)):0<=a.from_/\a.from_<a.to/\a.to<=1048577:=h.ok a (ef ..)
theorem yF:NrmS []:=⟨.nil,fun s h=>by grind⟩
theorem sJ{a:PSpan}{r:List PSpan}(h:NrmS (a::r)):memB (a::r) a.from_=true:=by grind[fJ,cases NrmS]
theorem HZ{a:PSpan}{r:List PSpan}(h:NrmS (a::r)){d:Int}(hd:memB (a::r) d=true):a.from_<=d:=by
 obtain⟨s,h1,h2,h3⟩:=jH.1 hd;rcases dP.1 h1 with e|e
 ·simp_all
 ·have:=h.low e;grind[cases NrmS]
theorem Q7{a:PSpan}{r:List PSpan}(h:NrmS (a::r)):memB (a::r) a.to=false:=by
 cases q:memB (a::r) a.to with
 |false=>rfl
 |true=>
  obtain⟨s,h1,h2,h3⟩:=jH.1 q;rcases dP.1 h1 with e|e
  ·simp_all
  ·have:=h.low e;omega
theorem HQ{a:PSpan}{r:List PSpan}(h:NrmS (a::r))(d:Int):memB r d=(decide (a.to<=d)&&memB (a::r) d):=by
 rw[fJ];by_cases h1:a.to<=d
 ·grind
 ·have:memB r d=false:=by
   cases q:memB r d with
   |false=>rfl
   |true=>
    obtain⟨s,h2,h3,h4⟩:=jH.1 q;have:=h.low h2;omega
  grind
theorem Ay:∀{r s:List PSpan},NrmS r->NrmS s->(∀d,memB r d=memB s d)->r=s
 |[],[],_,_,_=>rfl
 |[],b::s,_,hs,h=>by grind[sJ,nE]
 |a::r,[],hr,_,h=>by grind[sJ,nE]
 | a::r,b::s,hr,hs,h=>by
  have h1:b.from_<=a.from_:=HZ hs (by grind[sJ]);have h2:a.from_<=b.from_:=HZ hr (by grind[sJ]);have ha:=hr.head;have hb:=hs.head;have h3:¬a.to<b.to:=fun q=>by grind[fJ,Q7]
  have h4:¬b.to<a.to:=fun q=>by grind[fJ,Q7]
  have e:a=b:=by
   obtain⟨a1,a2⟩:=a;obtain⟨b1,b2⟩:=b;grind
  subst e;rw[Ay hr.tail hs.tail fun d=>by rw[HQ hr,HQ hs,h]]
def wR(f:Int->Bool)(d:Int)(l:List PSpan):List PSpan:=match f d with
 |false=>l
 |true=>match l with
  |[]=>[⟨d,d+1⟩]
  |s::r=>if s.from_=d+1 then⟨d,s.to⟩::r else⟨d,d+1⟩::s::r
def xd(f:Int->Bool):Nat->List PSpan
 |0=>[]
 |k+1=>wR f (1048577-Int.ofNat (k+1)) (xd f k)
theorem Px{f:Int->Bool}{d:Int}{l:List PSpan}(h0:0<=d)(h1:d+1<=1048577)(hl:NrmS l)(hf:∀s,s∈l->d+1<=s.from_):
  NrmS (wR f d l)/\(∀s,s∈wR f d l->d<=s.from_)/\∀e,memB (wR f d l) e=((decide (e=d)&&f e)||memB l e):=by
 unfold wR;cases hfd:f d with
 |false=>grind
 | true=>
  match l,hl,hf with
  |[],_,_=>
   refine⟨⟨by simp,fun s hs=>by grind⟩,fun s hs=>by simp_all,fun e=>?_⟩;simp only[fJ,nE,Bool.or_false];grind
  | s::r,hl,hf=>
   have hs:=hl.head;have hs2:=hf s (ef ..);simp only[];by_cases q:s.from_=d+1
   ·rw[if_pos q];refine⟨⟨lz.2 ⟨fun x hx=>hl.low hx,hl.tail.gap⟩,fun x hx=>?_⟩,fun x hx=>?_,fun e=>?_⟩
    ·grind[cases NrmS]
    ·grind
    ·simp only[fJ];grind
   ·rw[if_neg q];refine⟨⟨lz.2 ⟨fun x hx=>?_,hl.gap⟩,fun x hx=>?_⟩,fun x hx=>?_,fun e=>?_⟩
    ·have:=hf x hx;rcases dP.1 hx with e|e
     ·grind
     ·have:=hl.low e;grind
    ·rcases dP.1 hx with e|e
     ·grind
     ·exact hl.ok x e
    ·grind
    ·rw[fJ];grind
theorem GG(f:Int->Bool):∀k,k<=1048577->NrmS (xd f k)/\(∀s,s∈xd f k->1048577-Int.ofNat k<=s.from_)/\∀e,memB (xd f k) e=(decide (1048577-Int.ofNat k<=e/\e<1048577)&&f e)
 |0,_=>by
  refine⟨yF,fun s h=>(by cases h),fun e=>?_⟩;have:decide (1048577-Int.ofNat 0<=e/\e<1048577)=false:=by simp_all
  rw[this];rfl
 |k+1,hk=>by
  obtain⟨h1,h2,h3⟩:=GG f k (by omega);simp only[bW]at *;have:=Px (f:=f) (d:=1048577-((k+1:Nat):Int)) (l:=xd f k) (by omega) (by omega) h1 (fun s hs=>by grind);have h5:xd f (k+1)=wR f (1048577-((k+1:Nat):Int)) (xd f k):=by grind[xd]
  grind
theorem Q9(f:Int->Bool):∃l:List PSpan,NrmS l/\∀d,memB l d=(Pd d&&f d):=by
 obtain⟨h1,_,h3⟩:=GG f 1048577 (af _);exact⟨_,h1,fun d=>by simp_all[Pd]⟩
noncomputable def nf(f:Int->Bool):List PSpan:=Classical.choose (Q9 f)
theorem Ab(f:Int->Bool):NrmS (nf f):=(Classical.choose_spec (Q9 f)).1
theorem JO(f:Int->Bool)(d:Int):memB (nf f) d=(Pd d&&f d):=(Classical.choose_spec (Q9 f)).2 d
theorem RQ{f:Int->Bool}{r:List PSpan}(h:NrmS r)(hm:∀d,memB r d=(Pd d&&f d)):r=nf f:=Ay h (Ab f) fun d=>by grind[JO]
theorem RZ{f g:Int->Bool}(h:∀d,Pd d=true->f d=g d):nf f=nf g:=RQ (Ab f) fun d=>by
 rw[JO];grind
theorem UL{l:List PSpan}(h:NrmS l):l=nf (memB l):=RQ h fun d=>by
 cases q:memB l d with
 |false=>simp_all
 |true=>
  obtain⟨s,h1,h2,h3⟩:=jH.1 q;have:=h.ok s h1;have:Pd d=true:=by unfold Pd;grind
  simp_all
theorem Ex{α:Type}[Inhabited α]{l:List α}{n:Nat}(h:n<l.length):l.take (n+1)=l.take n++[gD l n]:=by grind[List.take_add_one,gD]
theorem FK{α:Type}[Inhabited α]{l:List α}{n:Nat}(h:n<l.length):l.drop n=gD l n::l.drop (n+1):=by grind[List.drop_eq_getElem_cons,gD]
theorem uF{α:Type}{l:List α}{n m:Nat}{x:α}(h:n<=m):(l.set m x).take n=l.take n:=by
 apply List.ext_getElem?;grind
theorem R8{α:Type}[Inhabited α]{l:List α}{i k:Nat}{x:α}(h:i<l.length):gD (l.set i x) k=if k=i then x else gD l k:=by
 unfold gD List.getD;grind
theorem tW.at{l:List PSpan}(h:tW l){i k:Nat}(hik:i<=k)(hk:k<l.length):(gD l i).from_<=(gD l k).from_:=by
 rcases gQ i k with q|q
 ·have:=F0.1 h i k (by omega) hk q;grind[gD]
 grind
structure MergeI(l cur:List PSpan)(n i:Nat):Prop where
 len:cur.length=l.length
 le:n<=i
 il:i<=l.length
 pos:0<i->0<n
 rest:∀k,i<=k->k<l.length->gD cur k=gD l k
 gap:∀j k,j<k->k<n->(gD cur j).to<(gD cur k).from_
 ok:∀k,k<n->0<=(gD cur k).from_/\(gD cur k).from_<(gD cur k).to/\(gD cur k).to<=1048577
 last:0<n->∀k,i<=k->k<l.length->(gD cur (n-1)).from_<=(gD l k).from_
 mem:∀d,(memB (cur.take n) d||memB (l.drop i) d)=memB l d
theorem MergeI.start(l:List PSpan):MergeI l l 0 0:=⟨rfl,af _,b8 _,fun h=>absurd h (xZ _),fun _ _ _=>rfl,fun _ _ _ h=>absurd h (qL _),fun _ h=>absurd h (qL _),fun h=>absurd h (xZ _),fun d=>by simp[memB]⟩
theorem MergeI.copy{l cur:List PSpan}{n i:Nat}(h:MergeI l cur n i)(hi:i<l.length)(hs:tW l)(hok:∀k,k<l.length->0<=(gD l k).from_/\(gD l k).from_<(gD l k).to/\(gD l k).to<=1048577)
  (hn:n=0\/(gD cur (n-1)).to<(gD cur i).from_):MergeI l (cur.set n (gD cur i)) (n+1) (i+1):=by
 rw[h.rest i (af _) hi]at hn ⊢;have hl:=h.le;have hcl:=h.len;have hg:∀k,gD (cur.set n (gD l i)) k=if k=n then gD l i else gD cur k:=fun k=>R8 (by omega)
 refine⟨by simp_all,by omega,by omega,fun _=>by omega,fun k h1 h2=>?_,fun j k h1 h2=>?_,fun k h1=>?_,fun _ k h1 h2=>?_,fun d=>?_⟩
 ·grind[cases MergeI]
 ·rw[hg,hg,if_neg (by omega)];by_cases e:k=n
  ·rw[if_pos e];rcases hn with hn|hn
   ·omega
   ·by_cases e2:j=n-1
    ·simp_all
    ·have h3:=h.gap j (n-1) (by omega) (by omega);grind[cases MergeI]
  ·grind[cases MergeI]
 ·rw[hg];by_cases e:k=n
  ·simp_all
  ·grind[cases MergeI]
 ·rw[hg,if_pos (by omega)];exact hs.at (by omega) h2
 ·rw[Ex (by grind),hg,if_pos rfl,uF (af _),Ai,<-h.mem d,FK hi,fJ,fJ,nE];grind
theorem MergeI.join{l cur:List PSpan}{n i:Nat}(h:MergeI l cur n i)(hi:i<l.length)(hs:tW l)(hok:∀k,k<l.length->0<=(gD l k).from_/\(gD l k).from_<(gD l k).to/\(gD l k).to<=1048577)
  (hn:0<n)(hle:(gD cur i).from_<=(gD cur (n-1)).to)(x:Int)(hx:x=DU (gD cur (n-1)).to (gD cur i).to):MergeI l (cur.set (n-1) ⟨(gD cur (n-1)).from_,x⟩) n (i+1):=by
 rw[h.rest i (af _) hi]at hle;rw[h.rest i (af _) hi,EF]at hx;have hl:=h.le;have hcl:=h.len;have hg:∀k,gD (cur.set (n-1) ⟨(gD cur (n-1)).from_,x⟩) k=if k=n-1 then⟨(gD cur (n-1)).from_,x⟩else gD cur k:=fun k=>R8 (by omega)
 have h4:=h.ok (n-1) (by omega);have h5:=hok i hi;have h6:=h.last hn i (af _) hi;refine⟨by simp_all,by omega,by omega,fun _=>hn,fun k h1 h2=>?_,fun j k h1 h2=>?_,fun k h1=>?_,fun _ k h1 h2=>?_,fun d=>?_⟩
 ·grind[cases MergeI]
 ·rw[hg,hg,if_neg (by omega)];by_cases e:k=n-1
  ·grind[cases MergeI]
  ·grind[cases MergeI]
 ·rw[hg];by_cases e:k=n-1
  ·grind
  ·grind[cases MergeI]
 ·grind[cases MergeI]
 ·obtain⟨m,rfl⟩:∃m,n=m+1:=⟨n-1,by omega⟩
  simp only[Nat.add_sub_cancel]at *;rw[Ex (by grind),hg,if_pos rfl,uF (af _),Ai,<-h.mem d,FK hi,fJ (gD l i),Ex (by omega),Ai,fJ,fJ,nE,Bool.or_false,Bool.or_false];grind
theorem MergeI.nrm{l cur:List PSpan}{n i:Nat}(h:MergeI l cur n i):NrmS (cur.take n):=by
 have hl:=h.le;have hcl:=h.len;have hil:=h.il;have hlen:(cur.take n).length=n:=by grind
 have hg:∀k (hk:k<(cur.take n).length),(cur.take n)[k]=gD cur k:=fun k hk=>by rw[List.getElem_take];unfold gD List.getD;grind
 refine⟨?_,fun s hs=>?_⟩;all_goals grind[List.pairwise_iff_getElem,List.getElem_of_mem,cases MergeI]
theorem MergeI.done{l cur:List PSpan}{n i:Nat}(h:MergeI l cur n i)(hi:l.length<=i)(d:Int):memB (cur.take n) d=memB l d:=by rw[<-h.mem d,FT hi,nE,Bool.or_false]
theorem S6{l l':List PSpan}(hp:l'.Perm (jM l)):∀k,k<l'.length->0<=(gD l' k).from_/\(gD l' k).from_<(gD l' k).to/\(gD l' k).to<=1048577:=fun k hk=>Bs (hp.mem_iff.1 (gc hk))
noncomputable def js(l:List PSpan):List PSpan:=nf (memB l)
theorem HW{l r:List PSpan}(h:NrmS r)(hm:∀d,memB r d=memB (jM l) d):r=js l:=RQ h fun d=>by grind[DI]
theorem Oj{l:List PSpan}(h:jM l=[]):[]=js l:=HW yF fun d=>by grind
theorem KM{zs:List Int}(hs:zs.Pairwise fun a b=>a<=b):(bi zs).Pairwise (fun a b=>a<b)/\∀z,z∈bi zs↔z∈zs:=by
 generalize hd:zs.toArray=d;have hsz:d.size=zs.length:=by grind
 have hx:∀j (hj:j<zs.length),d[j]! =zs[j]:=fun j hj=>by grind
 have mono:∀i j,i<=j->j<zs.length->d[i]!<=d[j]!:=fun i j hij hj=>by
  rcases gQ i j with q|q
  ·rw[hx i (by omega),hx j hj];exact F0.1 hs i j (by omega) hj q
  grind
 have key:∀m,m<=zs.length->(Lib.compactUpTo d m).Pairwise (fun a b=>a<b)/\(∀z,z∈Lib.compactUpTo d m->∃j,j<m/\z=d[j]!)/\∀j,j<m->d[j]!∈Lib.compactUpTo d m:=by
  intro m;induction m with
  |zero=>simp_all[Lib.compactUpTo]
  | succ m ih=>
   intro hm;obtain⟨h1,h2,h3⟩:=ih (by omega);rw[Lib.compactUpTo_succ];cases hk:Lib.keeps d m with
   | true=>
    simp only[if_true];have hk':m=0\/d[m]!≠d[m-1]!:=by grind[Lib.keeps]
    refine⟨List.pairwise_append.2 ⟨h1,by simp,fun a ha b hb=>?_⟩,fun z hz=>?_,fun j hj=>?_⟩
    ·obtain⟨j,hj,rfl⟩:=h2 a ha;have hb:b=d[m]!:=by simp_all
     subst hb;have e1:=mono j (m-1) (by omega) (by omega);have e2:=mono (m-1) m (by omega) (by omega);omega
    all_goals grind
   |false=>
    simp only[gP,if_false,eF];have hk':¬(m=0\/d[m]!≠d[m-1]!):=by grind[Lib.keeps]
    grind
 obtain⟨h1,h2,h3⟩:=key zs.length (af _);have e:bi zs=Lib.compactUpTo d zs.length:=by grind[bi,Lib.compact]
 rw[e];refine⟨h1,fun z=>⟨fun hz=>?_,fun hz=>?_⟩⟩
 ·grind
 ·obtain⟨j,hj,rfl⟩:=zK hz;simp_all
theorem NrmS.at{l:List PSpan}(h:NrmS l){j k:Nat}(hjk:j<k)(hk:k<l.length):(gD l j).to<(gD l k).from_:=by
 have:=F0.1 h.gap j k (by omega) hk hjk;grind[gD]
theorem NrmS.okAt{l:List PSpan}(h:NrmS l){k:Nat}(hk:k<l.length):0<=(gD l k).from_/\(gD l k).from_<(gD l k).to/\(gD l k).to<=1048577:=h.ok _ (gc hk)
theorem U4{l:List PSpan}{d:Int}:memB l d=true↔∃k,k<l.length/\(gD l k).from_<=d/\d<(gD l k).to:=by
 rw[jH];constructor
 ·rintro⟨s,h1,h2⟩
  obtain⟨k,hk,e⟩:=zK h1;have:gD l k=s:=by grind[gD]
  grind
 grind[gc]
theorem DG {a b:Int}:aa (ke a b) 0=true↔a=b:=by
 unfold ke;cases h:aL a b with
 | true => have:=ap h;constructor
           ·intro h;cases h
           omega
 |false=>
  have:=aG h;cases h2:aL b a with
  | true => have:=ap h2;constructor
            ·intro h;cases h
            omega
  |false=>have:=aG h2;exact⟨fun _=>by omega,fun _=>rfl⟩
theorem U3{l:List PSpan}(h:NrmS l)(d:Int):jU l d=memB l d:=by
 have hi:=Br (d:=d) h.sort;have hc:=Fw l d;rw[EJ,U4];unfold jU J7;simp only[ud,bZ];constructor
 ·rintro(⟨h1,h2⟩|⟨h1,h2⟩)
  ·have h1:=ap h1;simp only[bW]at h1;have h2:=DG.1 h2;have:=h.okAt (k:=om l d) (by omega);grind
  ·have h1:=ap h1;have h2:=ap h2;simp only[bW]at h1;have h3:=ap ((hi (om l d-1) (by omega)).2 (by omega));grind
 ·rintro⟨k,hk,h1,h2⟩
  by_cases e:(gD l k).from_=d
  ·left;have e1:¬k<om l d:=fun q=>by have:=ap ((hi k hk).2 q);omega
   have e2:¬om l d<k:=fun q=>by
    have h3:=h.at q hk;have h4:=h.okAt (k:=om l d) (by omega);grind[nF]
   have e3:om l d=k:=by omega
   rw[e3];exact⟨nF (by simp_all),DG.2 e⟩
  ·right;have e1:k<om l d:=(hi k hk).1 (nF (by omega));have e2:¬k+1<om l d:=fun q=>by
    have h3:=h.at (j:=k) (k:=k+1) (by omega) (by omega);have:=ap ((hi (k+1) (by omega)).2 q);omega
   grind[nF]
def qX(l:List PSpan):List Int:=l.flatMap fun s=>[s.from_,s.to]
theorem DB(s:PSpan)(r:List PSpan):qX (s::r)=[s.from_,s.to]++qX r:=by simp[qX]
theorem lX:∀(l:List PSpan),(qX l).length=2*l.length
 |[]=>rfl
 |s::r=>by rw[DB];simp[lX r];omega
theorem Iq{l:List PSpan}{s:PSpan}(h:s∈l):s.from_∈qX l/\s.to∈qX l:=by
 unfold qX;grind
def kB(g:Int->Bool):List Int->List PSpan
 |[]=>[]
 | a::r=>match r with
  |[]=>[]
  |b::_=>match g a with
   |true=>⟨a,b⟩::kB g r
   |false=>kB g r
theorem GC(g:Int->Bool)(a b:Int)(r:List Int):kB g (a::b::r)=match g a with|true=>⟨a,b⟩::kB g (b::r)|false=>kB g (b::r):=by rw[kB]
def s6:Int->List Int->Int
 |a,[]=>a
 |_,b::r=>s6 b r
theorem AC:∀{r:List Int}{a:Int},(a::r).Pairwise (fun a b=>a<b)->a<=s6 a r/\∀z,z∈r->z<=s6 a r
 |[],a,_=>⟨Int.le_refl _,fun z h=>by grind⟩
 |b::r,a,h=>by
  obtain⟨h1,h2⟩:=lz.1 h;have h3:=h1 b (ef ..);obtain⟨k1,k2⟩:=AC h2;grind[s6]
theorem GD{g:Int->Bool}{C:List Int}(hg:∀x y,(∀z,z∈C->z<=x\/y<=z)->∀d,x<=d->d<y->g d=g x):
  ∀(r:List Int)(a:Int),(a::r).Pairwise (fun a b=>a<b)->(∀z,z∈C->z<=a\/z∈r)->∀d,memB (kB g (a::r)) d=(decide (a<=d/\d<s6 a r)&&g d)
 |[],a,_,_,d=>by
  have:decide (a<=d/\d<s6 a [])=false:=by grind[s6]
  rw[this];rfl
 | b::r,a,hp,hC,d=>by
  obtain⟨h1,h2⟩:=lz.1 hp;have hab:=h1 b (ef ..);obtain⟨hb2,h3⟩:=lz.1 h2;have hl:=(AC h2).1;have ih:=GD hg r b h2 (fun z hz=>by grind) d;have hc:∀d,a<=d->d<b->g d=g a:=hg a b fun z hz=>by grind
  have e0:memB (kB g (a::b::r)) d=((g a&&decide (a<=d/\d<b))||memB (kB g (b::r)) d):=by
   rw[GC];cases g a with
   |true=>rw[fJ,Bool.true_and]
   |false=>simp_all
  rw[e0,ih,show s6 a (b::r)=s6 b r from rfl];grind
def iN(A:List PSpan):List Int:=bi (ec (qX A))
theorem Nk(A:List PSpan):(iN A).Pairwise (fun a b=>a<b)/\∀z,z∈iN A↔z∈qX A:=by
 obtain⟨h1,h2⟩:=KM (Ea (qX A));exact⟨h1,fun z=>(h2 z).trans (lf (qX A)).mem_iff⟩
theorem Ah{A l:List PSpan}(hl:∀s,s∈l->s∈A){x y:Int}(hz:∀z,z∈iN A->z<=x\/y<=z){d:Int}(h1:x<=d)(h2:d<y):memB l d=memB l x:=by
 have key:∀s,s∈l->((s.from_<=d/\d<s.to)↔(s.from_<=x/\x<s.to)):=fun s hs=>by
  obtain⟨k1,k2⟩:=Iq (hl s hs);grind[Nk]
 rw[EJ,jH,jH];grind
theorem NS{op:Bool->Bool->Bool}(h0:op false false=false)(A B:List PSpan)(d:Int):memB (kB (fun d=>op (memB A d) (memB B d)) (iN (A++B))) d=op (memB A d) (memB B d):=by
 obtain⟨h1,h2⟩:=Nk (A++B);have out:∀(z1 z2:Int),(∀z,z∈iN (A++B)->z1<=z/\z<=z2)->¬(z1<=d/\d<z2)->op (memB A d) (memB B d)=false:=fun z1 z2 hz hd=>by
  have no:∀l:List PSpan,(∀s,s∈l->s∈A++B)->memB l d=false:=fun l hl=>by
   cases q:memB l d with
   |false=>rfl
   |true=>
    obtain⟨s,k1,k2,k3⟩:=jH.1 q;obtain⟨k4,k5⟩:=Iq (hl s k1);grind
  simp_all
 cases hC:iN (A++B)with
 |nil=>
  rw[kB,nE];exact(out (d+1) d (fun z hz=>by grind) (by omega)).symm
 | cons a r=>
  rw[hC]at h1;have hl:=AC h1;have hp:=(lz.1 h1).1;rw[GD (C:=iN (A++B)) (fun x y hz d h3 h4=>by
   show op (memB A d) (memB B d)=op (memB A x) (memB B x)
   rw[Ah (A:=A++B) (fun s hs=>Ch _ hs) hz h3 h4,Ah (A:=A++B) (fun s hs=>Cg _ hs) hz h3 h4]) r a h1 (fun z hz=>by
   grind) d]
  by_cases q:a<=d/\d<s6 a r;all_goals grind
theorem Bi(A:List PSpan):(iN A).length<=2*A.length:=by
 have:=yX (ec (qX A));have h2:=(lf (qX A)).length_eq;grind[lX,iN]
theorem CS{g:Int->Bool}{C:List Int}{x:Nat}(h1:1<=x)(h2:x<C.length):kB g (C.drop (x-1))=match g (gD C (x-1))with|true=>⟨gD C (x-1),gD C x⟩::kB g (C.drop (x+1-1))|false=>kB g (C.drop (x+1-1)):=by grind[FK,GC]
theorem lT{g:Int->Bool}{C:List Int}{x:Nat}(h1:1<=x)(h2:C.length<=x):kB g (C.drop (x-1))=[]:=by
 have:(C.drop (x-1)).length<=1:=by simp_all
 match C.drop (x-1),this with
 |[],_=>rfl
 |[_],_=>rfl
 |_::_::_,h=>simp_all
noncomputable def tZ(op:Bool->Bool->Bool)(a b:List PSpan):List PSpan:=nf fun d=>op (memB a d) (memB b d)
theorem m8(l:List PSpan):NrmS (js l):=Ab _
theorem DK(l:List PSpan)(d:Int):memB (js l) d=(Pd d&&memB l d):=JO _ d
theorem PX{op:Bool->Bool->Bool}(h0:op false false=false){a b A B:List PSpan}(hA:js a=A)(hB:js b=B):js (kB (fun d=>op (jU A d) (jU B d)) (iN (A++B)))=tZ op a b:=by
 have nA:NrmS A:=hA▸m8 a;have nB:NrmS B:=hB▸m8 b;have e:(fun d=>op (jU A d) (jU B d))=fun d=>op (memB A d) (memB B d):=funext fun d=>by grind[U3]
 rw[e];unfold js tZ;refine RZ fun d hd=>?_
 rw[NS h0,<-hA,<-hB,DK,DK,hd,Bool.true_and,Bool.true_and]
section
variable{H:Type}{enc:TypeId×Value->H}{P:Program}{w:World}{base:Nat}{spare:Nat->Bool}{held:Bool}
inductive VL(M:dT):List AV->List Value->Prop
 |nil:VL M [] []
 |cons {x:AV} {v:Value} {xs:List AV} {vs:List Value} (h:VRel (fun _=>none) M x v) (t:VL M xs vs):VL M (x::xs) (v::vs)
theorem VL.append{M:dT}{xs ys:List AV}{a b:List Value}(h:VL M xs a)(k:VL M ys b):VL M (xs++ys) (a++b):=by
 induction h with
 |nil=>grind
 |cons h _ ih=>exact .cons h ih
theorem VL.at_{M:dT}{xs:List AV}{a:List Value}(h:VL M xs a):∀(j:Nat)(y:AV),xs[j]?=some y->∃v,a[j]?=some v/\VRel (fun _=>none) M y v:=by
 induction h with
 |nil=>simp_all
 |cons h _ ih=>grind
theorem VL.one{M:dT}{x:AV}{cs:List Value}(h:VL M [x] cs):∃v,cs=[v]/\VRel (fun _=>none) M x v:=by
 cases h with
 |cons h t=>cases t;simp_all
def Wt(P:Program)(t:TypeId)(d:DataW H):Prop:=∀m,m∈d.weights P t->m<=reachBytes
theorem qR{e:TypeId}{d:DataW H}{m:Nat}(hm:m∈d.weights P e):∀{l:List (DataW H)},d∈l->m∈DataW.weightsAll P e l
 |[],h=>by grind
 |a::r,h=>by
  unfold DataW.weightsAll;rcases dP.1 h with rfl|h
  ·simp_all
  ·exact Cg _ (qR hm h)
theorem jO{t:TypeId}{d:DataW H}{m:Nat}(hm:m∈d.weights P t):∀{ts:List TypeId}{l:List (DataW H)}(i:Nat),ts[i]?=some t->l[i]?=some d->m∈DataW.weightsEach P ts l
 |[],_,i,h,_=>by simp_all
 |_::_,[],i,_,h=>by simp_all
 |u::ts,a::r,i,h1,h2=>by
  unfold DataW.weightsEach;cases i with
  |zero=>simp_all
  |succ i=>exact Cg _ (jO hm i (by simp_all) (by simp_all))
def Fk(P:Program):List Field->Nat->Nat->Bool
 |[],off,n=>Nat.beq off n
 |f::r,off,n=>Nat.beq f.offset off&&Fk P r (off+P.cellsOf f.type) n
def VF(M:dT)(P:Program)(cs:List Value):List Field->List (List AV)->Prop
 |[],[]=>True
 |f::fs,xs::xss=>VL M xs ((cs.drop f.offset).take (P.cellsOf f.type))/\VF M P cs fs xss
 |_,_=>False
theorem VF.vl{M:dT}{cs:List Value}:∀{fs:List Field}{xss:List (List AV)}{off:Nat},Fk P fs off cs.length=true->VF M P cs fs xss->VL M xss.flatten (cs.drop off)
 |[],[],off,h,_=>by
  have:=qx h;rw[this,List.drop_length];exact .nil
 |[],_::_,_,_,h=>h.elim
 |_::_,[],_,_,h=>h.elim
 |f::fs,xs::xss,off,h,k=>by
  unfold Fk at h;rw[bZ]at h;have ho:=qx h.1;have h1:=k.1;rw[ho]at h1;have h2:=VF.vl h.2 k.2;have e:cs.drop off=(cs.drop off).take (P.cellsOf f.type)++cs.drop (off+P.cellsOf f.type):=by grind[List.drop_drop,List.take_append_drop]
  rw[List.flatten_cons,e];exact h1.append h2
def TF(enc:TypeId×Value->H)(P:Program)(w:World)(base:Nat)(spare:Nat->Bool)(held:Bool)(n:Nat)(cs:List Value):List Field->Prop
 |[]=>True
 |f::fs=>(∃d p,DataW.trod enc P w base spare held n f.type ((cs.drop f.offset).take (P.cellsOf f.type))=some (d,p)/\Wt P f.type d)/\TF enc P w base spare held n cs fs
theorem W8{n:Nat}{cs:List Value}:∀(fs:List Field),(∀(i:Nat)(f:Field),fs[i]?=some f->∃d p,DataW.trod enc P w base spare held n f.type ((cs.drop f.offset).take (P.cellsOf f.type))=some (d,p)/\Wt P f.type d)->TF enc P w base spare held n cs fs
 |[],_=>trivial
 |f::fs,h=>⟨h 0 f rfl,W8 fs fun i g hg=>h (i+1) g (by simp_all)⟩
theorem jd{t:TypeId}{fs:Array Field}{fuel:Nat}{cs:List Value}{d:DataW H}{p:List MemPlace}(hu:P.underlying t=some (.struct fs))(hc:Fk P fs.toList 0 (P.cellsOf t)=true)
  (h:DataW.trod enc P w base spare held fuel t cs=some (d,p))(hw:Wt P t d):
  ∃n,fuel=n+1/\TF enc P w base spare held n cs fs.toList/\∀xss,VF (cG w) P cs fs.toList xss->VL (cG w) xss.flatten cs:=by
 obtain⟨xs,n,rfl,h1,h2,h3,h4⟩:=DataW.trod_struct hu h;simp only[ub]at h1;obtain⟨rfl,_⟩:=h1;refine⟨n,rfl,W8 _ fun i f hf=>?_,fun xss hx=>?_⟩
 ·have hf':fs[i]?=some f:=by simp_all
  have hi:i<xs.length:=by grind
  have e:=h4 i f hf';rw[mn hi]at e;refine⟨xs[i].1,xs[i].2,e,fun m hm=>hw m ?_⟩;unfold DataW.weights;rw[hu];exact jO hm i (by simp_all) (by grind)
 ·have:=VF.vl (off:=0) (by simp_all) hx;simp_all
theorem g0{t:TypeId}{fuel:Nat}{cs:List Value}{d:DataW H}{p:List MemPlace}(hu:P.underlying t=some (.int .i64))(h:DataW.trod enc P w base spare held fuel t cs=some (d,p)):∃x,VL (cG w) [.int .i64 x] cs:=by
 obtain⟨x,rfl,_⟩:=DataW.trod_int hu h;exact⟨x,.cons (.int _ _) .nil⟩
theorem oz{t:TypeId}{fuel:Nat}{cs:List Value}{d:DataW H}{p:List MemPlace}(hu:P.underlying t=some .string)(h:DataW.trod enc P w base spare held fuel t cs=some (d,p)):∃s,VL (cG w) [.str s] cs:=by
 obtain⟨⟨⟨s⟩⟩,rfl,_⟩:=DataW.trod_string hu h;exact⟨s,.cons (.str _) .nil⟩
theorem MK{α:Type}{Q:Nat->α->Prop}:∀(n:Nat),(∀i,i<n->∃x,Q i x)->∃l:List α,l.length=n/\∀i x,l[i]?=some x->Q i x
 |0,_=>⟨[],rfl,fun i x h=>by simp_all⟩
 |n+1,h=>by
  obtain⟨l,h1,h2⟩:=MK n fun i hi=>h i (by omega)
  obtain⟨y,hy⟩:=h n (by omega);refine⟨l++[y],by simp_all,fun i x hx=>?_⟩;grind
theorem aaM{x:AV}(h:x.cells.all dW=true):Sc x:=fun y hy=>kX.1 h y hy
theorem Jh{α:Type}(el:α->AV)(fit:α->Prop){t e:TypeId}{fuel:Nat}{cs:List Value}{d:DataW H}{p:List MemPlace}(hu:P.underlying t=some (.slice e))(hsz:Nat.blt 0 (P.cellsOf e)=true)(hby:Nat.blt 0 (P.bytesOf e)=true)
  (hel:∀x,(el x).cells.length=P.cellsOf e)(hsc:∀x,(el x).cells.all dW=true)(htop:∀x,(el x).top=0)
  (hrec:∀m,m<fuel->∀cs d p,DataW.trod enc P w base spare held m e cs=some (d,p)->Wt P e d->∃x,fit x/\VL (cG w) (el x).cells cs)
  (h:DataW.trod enc P w base spare held fuel t cs=some (d,p))(hw:Wt P t d):
  ∃l:List α,l.length<2^47/\(∀x,x∈l->fit x)/\VL (cG w) [.ls (l.map el)] cs:=by
 rw[dN]at hsz hby;simp only[decide_eq_true_eq]at hsz hby;rcases DataW.trod_slice hu h with⟨rfl,_⟩|⟨a,len,cap,elems,rest,n,rfl,rfl,h1,h2,h3,h4,h5,h6,_,_⟩
 ·exact⟨[],Nat.two_pow_pos 47,fun x h=>absurd h (List.not_mem_nil),.cons .lsn .nil⟩
 ·simp only[ub]at h1;obtain⟨rfl,_⟩:=h1;have hwl:len<2^47:=by
   have:=hw ((elems.length+rest.length)*P.bytesOf e) (by grind[DataW.weights]);have h7:elems.length<=(elems.length+rest.length)*P.bytesOf e:=bu (Nat.le_add_right _ _) (Nat.le_mul_of_pos_right _ hby);have:elems.length<=reachBytes:=bu h7 this;rw[h5]at this;exact oB this (by decide)
  have el0:∀i,i<len->∃x,fit x/\∃cs:List Value,cs.length=P.cellsOf e/\(∀j,j<P.cellsOf e->w.cell? ((a.add (i*P.cellsOf e)).add j)=cs[j]?)/\VL (cG w) (el x).cells cs:=by
   intro i hi;have k5:=h6 i hi;have hi':i<elems.length:=by omega
   rw[mn hi']at k5;simp only[Option.bind_eq_some_iff]at k5;obtain⟨cs,c1,c2⟩:=k5;obtain⟨z1,z2⟩:=DM c1;obtain⟨x,f1,f2⟩:=hrec n (by omega) cs elems[i].1 elems[i].2 c2 (fun m hm=>hw m (by
    unfold DataW.weights;rw[hu];exact dA _ (Ch _ (qR hm (gO.2 ⟨elems[i],EW hi',rfl⟩)))))
   grind
  obtain⟨l,q1,q2⟩:=MK len el0;refine⟨l,by omega,fun x hx=>?_,.cons ?_ .nil⟩
  ·obtain⟨i,hi⟩:=F7.1 hx;grind
  ·have q1':(l.map el).length=len:=by simp_all
   generalize hys:l.map el=ys at *;have q3:∀i y,ys[i]?=some y->∃cs:List Value,cs.length=P.cellsOf e/\(∀j,j<P.cellsOf e->w.cell? ((a.add (i*P.cellsOf e)).add j)=cs[j]?)/\VL (cG w) y.cells cs:=by grind
   have q4:∀y,y∈ys->y.cells.length=P.cellsOf e/\Sc y:=by grind[aaM]
   have q5:az ys=0:=by grind[aW]
   have addadd:∀i j:Nat,a.spot=none->(a.add i).add j=⟨a.block,a.off+i+j,none⟩:=by
    intro i j hs;obtain⟨blk,off,spot⟩:=a;grind[Addr.add]
   have spot:ys≠[]->a.spot=none:=by
    intro hne;obtain⟨x,hx⟩:∃x,ys[0]?=some x:=by
     cases ys with
     |nil=>simp_all
     |cons x r=>exact⟨x,rfl⟩
    grind[se,Addr.add]
   have cell:∀(i j:Nat)(x:AV),ys[i]?=some x->j<P.cellsOf e->∃c v,cG w a.block=some c/\c[a.off+i*P.cellsOf e+j]?=some v/\∀y,x.cells[j]?=some y->VRel (fun _=>none) (cG w) y v:=by
    intro i j x hx hj;obtain⟨cs,c1,c2,c3⟩:=q3 i x hx;have:=c2 j hj;rw[mn (by omega),addadd _ _ (spot (by grind))]at this;obtain⟨_,c,m1,m2⟩:=se this;refine⟨c,_,m1,m2,fun y hy=>?_⟩;obtain⟨v,g1,g2⟩:=c3.at_ j y hy;simp_all
   refine .lsp ?_ q5;by_cases hne:ys=[]
   ·subst hne;simp at q1';subst q1';exact .ps (sz:=P.cellsOf e) (c:=#[]) (by simp) (fun h=>by grind) (fun h=>absurd rfl h) (fun x h=>by simp_all) (fun i x j y h=>by simp_all)
   ·have hlen:0<ys.length:=qN.2 hne;obtain⟨x0,hx0⟩:∃x,ys[ys.length-1]?=some x:=⟨ys[ys.length-1],by simp⟩
    obtain⟨c,v0,m1,m2,_⟩:=cell (ys.length-1) (P.cellsOf e-1) x0 hx0 (by omega);have hc:=(sI.1 m2).1;have hfit:a.off+ys.length*P.cellsOf e<=c.size:=by
     have h1:(ys.length-1)*P.cellsOf e+P.cellsOf e=ys.length*P.cellsOf e:=by rw[<-qw];grind
     omega
    have:=VRel.ps (pl:=fun _=>none) (M:=cG w) (xs:=ys) (tight:=false) (a:=a) (cap:=cap) (sz:=P.cellsOf e) (c:=c) (by omega) (fun h=>by grind) (fun _=>⟨spot hne,m1,hfit,hsz⟩) q4
     (fun i x j y hx hy=>by
      obtain⟨r1,_⟩:=q4 x (bH hx);have hj:j<P.cellsOf e:=by grind
      obtain⟨c',v,n1,n2,n3⟩:=cell i j x hx hj;simp_all)
    simp_all
theorem mX{α:Type}(el:α->AV)(fit:α->Prop){t e:TypeId}{fuel:Nat}{cs:List Value}{d:DataW H}{p:List MemPlace}(hu:P.underlying t=some (.slice e))(hsz:Nat.blt 0 (P.cellsOf e)=true)(hby:Nat.blt 0 (P.bytesOf e)=true)
  (hel:∀x,(el x).cells.length=P.cellsOf e)(hsc:∀x,(el x).cells.all dW=true)(htop:∀x,(el x).top=0)
  (hrec:∀m,m<fuel->∀cs d p,DataW.trod enc P w base spare held m e cs=some (d,p)->Wt P e d->∃x,fit x/\VL (cG w) (el x).cells cs)
  (h:DataW.trod enc P w base spare held fuel t cs=some (d,p))(hw:Wt P t d):
  ∃l:List α,l.length<2^60/\(∀x,x∈l->fit x)/\VL (cG w) [.ls (l.map el)] cs:=by
 have⟨l,h1,h2⟩:=Jh el fit hu hsz hby hel hsc htop hrec h hw;grind
end
def oQ(u:TUnit):List PWord:=u.head++u.words
mutual
def mT:TUnit->List PWord
 |⟨_,_,_,_,_,h,w,ks⟩=>(h++w)++lw ks
def lw:List TUnit->List PWord
 |[]=>[]
 |k::r=>mT k++lw r
end
theorem Nl(u:TUnit):mT u=oQ u++lw u.kids:=by obtain⟨a,b,c,d,e,h,w,ks⟩:=u;rw[mT];rfl
theorem D9:lw []=[]:=by rw[lw]
theorem uz(k:TUnit)(r:List TUnit):lw (k::r)=mT k++lw r:=by rw[lw]
theorem sq{k:Int}:∀{m:List (Int×Int)},ic k m=none->¬k∈m.map (·.1)
 |[],_=>by simp
 | (i,x)::r,h=>by
  simp only[ic]at h;cases e:aa k i with
  |true=>grind
  |false=>
   rw[e]at h;have:=sq h;grind[IU]
section
variable{u w':TUnit}{ws:List PWord}{w:PWord}{r:List PWord}{ks:List TUnit}{m x:List (Int×Int)}{c B:Int}
end
theorem VRel.ls0{pl:Pl}{M:dT}{x:Value}(h:VRel pl M (.ls []) x):VRel pl M .nils x\/VRel pl M (.ps [] false) x:=by
 cases h with
 |lsn=>exact .inl .nils
 |lsp h _=>simp_all
theorem FL{P:Program}{G:fy}{f:FuncId}{a b c:List AV}{h:AHeap}{Ψ:AV->AHeap->Prop}(hs:∀pl M vs,VRels pl M c vs->VRels pl M a vs\/VRels pl M b vs)(h1:aN P G f a h Ψ)(h2:aN P G f b h Ψ):aN P G f c h Ψ:=fun pl M w vs hg hr hv=>(hs pl M vs hv).elim (h1 pl M w vs hg hr) (h2 pl M w vs hg hr)
theorem VRels.first{pl:Pl}{M:dT}{x y z:AV}{r:List AV}{vs:Array Value}(h:VRels pl M (z::r) vs)(hs:∀v,VRel pl M z v->VRel pl M x v\/VRel pl M y v):VRels pl M (x::r) vs\/VRels pl M (y::r) vs:=by
 obtain⟨h1,h2⟩:=h;have lift:∀u,VRel pl M u (vs.getD 0 undef)->VRels pl M (u::r) vs:=fun u hu=>⟨h1,fun j y hj=>by
  cases j with
  |zero=>grind
  |succ j=>simp_all⟩
 exact(hs _ (h2 0 z rfl)).imp (lift x) (lift y)
end Go.Ev
namespace Go.Ev
open Go
theorem aF{n b m:Nat}(h1:n<=m)(h2:m<=2^40)(h3:m*b<=2^40):small n b=true:=by
 unfold small;have h4:n*b<=m*b:=fV b h1;grind[Nat.ble_eq_true_of_le]
def Zn(d:Int):List Int->List Int
 |[]=>[d]
 |x::r=>bif aL x d then x::Zn d r else bif aa x d then x::r else d::x::r
def iC(ws:List PWord)(l:List Int):List Int:=ws.foldl (fun l w=>Zn w.act l) l
def Ub{α:Type}:Result α->World
 | .ok _ w=>w
 | .halt _ w=>w
def gW:GStep->World
 | .go _ w _=>w
 | .comm _ _ _ _ w _=>w
 | .spawn _ _ w _=>w
 | .count _ w _=>w
 | .timer _ _ w _=>w
 | .alone _ _ w _=>w
 | .newcoro _ _ _ w _=>w
 | .coroswitch _ _ _ w _=>w
 | .collect _ w _=>w
 | .watch _ w _=>w
 | .ended _ w _=>w
theorem mz(es:Array Event)(g:GStep):gW (GStep.after es g)=gW g:=by cases g<;>rfl
theorem KT{α:Type}:∀(q:Ask α)(w:World),w.drawn<=(w.ask q).2.drawn
 | .done a,w=>af _
 | .ask what range k,w=>by
  rw[World.ask];split
  ·exact KT (k 0) w
  ·exact bu (n9 _) (KT _ {w with drawn:=w.drawn+1})
theorem P4(w:World)(c:Sys):w.drawn<=(w.sys c).2.drawn:=by
 unfold World.sys;have h:=KT (Kernel.perform c w.os) w;grind
theorem yj{p:Program}{w w':World}{at_:Addr}{u:TypeId}{k:Addr}{v:Value}{b:Bool}{l:List Addr}(h:w.viewStore p at_ u k v b=.ok (w',l)):w'.drawn=w.drawn:=by
 unfold World.viewStore at h;simp only[bind,Except.bind,pure,Except.pure]at h
 repeat' split at h
 all_goals first|cases h;done|(injection h with h;injection h with h1 h2;rw[<-h1])
theorem BU{p:Program}{w w':World}{a:Addr}{v:Value}{b:Bool}{l:List Addr}(h:w.farStore p a v b=.ok (w',l)):w'.drawn=w.drawn:=by
 unfold World.farStore at h
 repeat' split at h
 all_goals first|cases h;done|grind[yj]
theorem E6(w:World)(a:Addr)(n:Nat):(w.freeze a n).drawn=w.drawn:=by unfold World.freeze;grind
theorem Qw(p:Program){α:Type}(s:Sem α):∀(w:World),w.drawn<=(Ub (s.run p w)).drawn:=by
 induction s with
 |pure a=>exact fun w=>af _
 |load m a k ih=>
  intro w;simp only[Sem.run]
  repeat' split
  all_goals first|exact ih _ _|exact af _
 | store m a v k ih=>
  intro w;cases v
  all_goals simp only[Sem.run]
  all_goals first
   |exact af _
   |((repeat' split);all_goals first|exact af _|exact ih (w.setCell _ _)|(rename_i e;refine bu ?_ (ih _);rw[BU e];exact af _))
 |new o k ih=>grind[Sem.run]
 |shape r k ih=>grind[Sem.run]
 |freeze a n k ih=>intro w;simp only[Sem.run];refine bu ?_ (ih _);simp_all[E6]
 |frozen a k ih=>grind[Sem.run]
 |getObj r k ih=>
  intro w;simp only[Sem.run]
  repeat' split
  all_goals first|exact ih _ _|exact af _
 |setObj r o k ih=>
  intro w;simp only[Sem.run]
  repeat' split
  all_goals first|exact ih {w with heap:=w.heap.setIfInBounds r o}|exact af _
 |choose q k ih=>
  intro w;simp only[Sem.run];grind
 |sys c k ih=>grind[Sem.run,P4]
 |program k ih=>grind[Sem.run]
 |mark m k ih=>grind[Sem.run]
 |halt h=>exact fun w=>af _
theorem cS{p:Program}{α:Type}{s:Sem α}{w:World}{r:Result α}(h:s.run p w=r):w.drawn<=(Ub r).drawn:=h▸Qw p s w
theorem Uv{p:Program}{α:Type}{s:Sem α}{w:World}{es es':Array Event}{r:Result α}(h:s.runT p w es=(r,es')):w.drawn<=(Ub r).drawn:=by
 have:=Sem.runT_fst p s w es;rw[h]at this;exact cS this.symm
theorem KD(w:World)(fd:Nat)(text:ByteArray)(o:Outcome):w.drawn<=(gW (endWith w fd text o)).drawn:=by
 unfold endWith;simp only[];have h:=P4 w (.write fd text);split;all_goals (rename_i e;rw[e]at h)
 all_goals repeat' split
 all_goals exact h
theorem xS(fr:Frame)(m:String)(w:World):w.drawn<=(gW (endThrow fr m w)).drawn:=af _
theorem rE(p:Program)(fr:Frame)(v:Value)(w:World):w.drawn<=(gW (endPrinting p fr v w)).drawn:=by
 unfold endPrinting;simp only[]
 repeat' split
 all_goals exact af _
theorem xT(p:Program)(fr:Frame)(cs:List Frame)(d:Option Dying)(m:String)(w:World):w.drawn<=(gW (endFatal p fr cs d m w)).drawn:=by
 unfold endFatal;simp only[];split;all_goals (rename_i e;exact cS e)
theorem Jz(p:Program)(fr:Frame)(d:Dying)(f:Fatal)(w:World):w.drawn<=(gW (writeOn p fr d f w)).drawn:=by
 unfold writeOn;split
 ·exact af _
 ·simp only[];split;all_goals (rename_i e;exact Uv e)
theorem Yp(p:Program)(fr:Frame)(d:Dying)(w:World):w.drawn<=(gW (die p fr d w)).drawn:=by
 unfold die;split
 ·grind[Jz]
 ·split
  ·split
   ·exact af _
   grind[KD]
  ·simp only[];split
   ·exact af _
   ·split;all_goals (rename_i e;exact cS e)
   ·rw[mz];split;all_goals first|(rename_i e;exact cS ((Sem.runT_fst ..).symm.trans e))|skip
    ·rename_i e;exact bu (cS ((Sem.runT_fst ..).symm.trans e)) (rE ..)
    ·exact af _
   ·exact af _
theorem rG(p:Program)(main:Bool)(fr:Frame)(cs:List Frame)(d:Option Dying)(v:Value)(w:World):w.drawn<=(gW (doReturn p main fr cs d v w)).drawn:=by
 unfold doReturn
 repeat' split
 all_goals exact af _
theorem tP{c:Prop}[Decidable c]{a b:GStep}{n:Nat}(h1:n<=(gW a).drawn)(h2:n<=(gW b).drawn):n<=(gW (if c then a else b)).drawn:=by grind
theorem yd(p:Program)(fr:Frame)(cs:List Frame)(dy:Option Dying)(d:Deferred)(w:World):w.drawn<=(gW (callDeferred p fr cs dy d w)).drawn:=by
 unfold callDeferred;refine tP ?_ ?_
 ·exact af _
 ·simp only[];rw[mz];split;all_goals (rename_i e;have h:=cS ((Sem.runT_fst ..).symm.trans e))
  all_goals first|exact h|exact bu h (xT ..)|((repeat' split)<;>exact h)
theorem ND(p:Program)(main:Bool)(fr:Frame)(cs:List Frame)(dy:Option Dying)(w:World):w.drawn<=(gW (unwind p main fr cs dy w)).drawn:=by
 unfold unwind;split
 ·simp only[];rw[mz];split;all_goals (rename_i e;exact cS ((Sem.runT_fst ..).symm.trans e))
 ·grind[yd]
 ·split
  ·exact af _
  ·split
   ·exact af _
   ·split
    ·exact af _
    ·split
     ·split
      ·exact af _
      ·split;all_goals (rename_i e;exact cS e)
     ·split
      ·grind[rE]
      ·exact af _
  ·split
   ·grind[rG]
   ·simp only[];rw[mz];split;all_goals (rename_i e;have h:=cS ((Sem.runT_fst ..).symm.trans e))
    all_goals first|exact h|exact bu h (rG ..)
theorem Sp(p:Program)(fr:Frame)(cs:List Frame)(dy:Option Dying)(g:Nat)(w:World):w.drawn<=(gW (early p fr cs dy g w)).drawn:=by
 unfold early;simp only[]
 repeat' split
 all_goals first|exact af _|(rename_i e;exact cS e)|(rename_i e _;exact cS e)|(rename_i e _ _;exact cS e)|(rename_i e _ _ _ _;exact cS e)
theorem vL(p:Program)(listen:Bool)(fr:Frame)(cs:List Frame)(dy:Option Dying)(s:Sem Next)(w:World):w.drawn<=(gW (stepG.apply p listen fr cs dy s w)).drawn:=by
 unfold stepG.apply;simp only[];rw[mz];have h0:w.drawn<=(Ub (if listen=true then Sem.runT p s w #[]else(Sem.run p s w,#[])).fst).drawn:=by
  cases listen
  ·grind[Qw]
  ·exact cS (Sem.runT_fst ..).symm
 generalize (if listen=true then Sem.runT p s w #[]else(Sem.run p s w,#[])).fst=r at h0 ⊢;split;all_goals first|exact h0|exact bu h0 (xT ..)|exact bu h0 (Sp ..)|exact bu h0 (xS ..)|skip
 all_goals repeat' split
 all_goals first|exact h0|exact bu h0 (xS ..)|skip
theorem UD(p:Program)(listen:Bool)(fr:Frame)(cs:List Frame)(dy:Option Dying)(w:World):w.drawn<=(gW (stepG.oper p listen fr cs dy w)).drawn:=by
 unfold stepG.oper;split
 ·exact af _
 ·split;all_goals exact vL ..
theorem VE(p:Program)(main listen:Bool)(fr:Frame)(cs:List Frame)(dy:Option Dying)(w:World):w.drawn<=(gW (stepG.exec p main listen fr cs dy w)).drawn:=by
 have lv:∀(l:Nat)(jump:Option Code),w.drawn<=(gW (GStep.after (seen p fr.fn ((Instr.endRound l jump).runT p w #[]).snd) (match((Instr.endRound l jump).runT p w #[]).fst with| .ok v w=>doReturn p main fr cs dy v w| .halt _ w=>.ended (.stuck "range over a function: no such loop" (fr.pos p)) w))).drawn :=by
  intro l jump;rw[mz];have h0:=cS (Sem.runT_fst p (Instr.endRound l jump) w #[]).symm;split;all_goals (rename_i e;rw[e]at h0)
  ·exact bu h0 (rG ..)
  ·exact h0
 unfold stepG.exec;simp only[];split;all_goals first|exact af _|exact vL .. |skip
 ·split
  ·exact tP (af _) (af _)
  grind
 ·split
  ·exact tP (af _) (af _)
  grind
 ·split<;>exact af _
 ·rename_i id k _;cases exitTo id k with
  |none=>simp only[Option.elim];split;exact tP (af _) (af _);grind
  |some k'=>exact af _
 ·rename_i id k _;cases gotoIn id k with
  |none=>simp only[Option.elim];split;exact tP (af _) (af _);grind
  |some k'=>exact af _
 ·rw[mz];split
  ·rename_i e;exact bu (cS ((Sem.runT_fst ..).symm.trans e)) (vL ..)
  ·rename_i e;exact cS ((Sem.runT_fst ..).symm.trans e)
 ·rw[mz];split<;>rename_i e<;>exact cS ((Sem.runT_fst ..).symm.trans e)
 ·rename_i row _ _ _;cases Extern.next row with
  |none=>exact af _
  |some e=>grind[vL]
 ·refine tP (af _) ?_;split<;>rename_i e<;>exact cS e
 ·exact tP (UD ..) (af _)
theorem P9(p:Program)(main listen:Bool)(g:Goroutine)(w:World):w.drawn<=(gW (stepG p main g w listen)).drawn:=by
 unfold stepG;grind[Yp,VE,ND]
def sD(n:Nat):Stepped->Prop
 | .next m=>n<=m.world.drawn
 | .ended _ _=>True
theorem sD.trans{n k:Nat}{s:Stepped}(h:n<=k)(g:sD k s):sD n s:=by
 cases s with
 |next m=>exact bu h g
 |ended o w=>trivial
theorem Rl{c:Prop}[Decidable c]{a b:Stepped}{n:Nat}(h1:sD n a)(h2:sD n b):sD n (if c then a else b):=by grind
theorem MJ(p:Program)(gs:Array Goroutine)(rest:Rest)(w:World):sD w.drawn (look p gs rest w):=by
 unfold look;simp only[];split
 ·refine Rl trivial ?_;split
  ·trivial
  ·split<;>rename_i e<;>first|exact cS e|trivial
 ·trivial
theorem yx{rest:Rest}{cases:Array CommCase}{w w':World}(h:waitingAt rest cases w=some w'):w'.drawn=w.drawn:=by
 unfold waitingAt at h
 repeat' split at h
 all_goals first|(cases h;done)|(cases h;rfl)
theorem E0{c:Prop}[Decidable c]{a b:Stepped×Array MemOp}{n:Nat}(h1:sD n a.1)(h2:sD n b.1):sD n (if c then a else b).1:=by grind
theorem Bp(p:Program)(rest:Rest)(gs:Array Goroutine)(i:Nat)(g:Goroutine)(cs:Array CommCase)(bl:Bool)(sh:CommShape)(w:World):sD w.drawn (communicate p rest gs i g cs bl sh w).1:=by
 unfold communicate;simp only[];refine E0 trivial (E0 (E0 ?_ (af _)) ?_)
 ·split
  ·rename_i e;exact xQ (yx e).symm
  ·trivial
 ·split
  ·trivial
  ·rename_i w1 e;have h:w.drawn<=w1.drawn:=cS e;clear e;split
   ·split
    ·rename_i e;exact bu h (cS e)
    ·trivial
   ·exact h
   ·exact h
   ·split
    ·exact h
    ·split
     ·rename_i e;exact bu h (cS e)
     ·trivial
   ·exact h
   ·exact h
   ·trivial
theorem Qz(p:Program)(m:Machine)(k:Nat):sD m.world.drawn (serve p m k):=by
 unfold serve;split
 ·trivial
 ·exact af _
 ·simp only[];split
  ·trivial
  ·exact af _
theorem B6{m m':Machine}{op:TimerOp}{v:Value}(h:timerOp m op=.ok (v,m')):m'.world.drawn=m.world.drawn:=by
 have rt:∀(m:Machine)(k:Nat)(t:Timer)(a b:Nat),(retime m k t a b).2.world.drawn=m.world.drawn:=by
  intro m k t a b;unfold retime drain;grind
 cases op with
 |new t=>
  simp only[timerOp]at h
  repeat' split at h
  all_goals first|(cases h;done)|(cases h;rfl)
 |stop var=>
  simp only[timerOp,timerOp.named]at h;grind
 | reset var a b=>
  simp only[timerOp,timerOp.named,timerOp.opened]at h;split at h
  ·rename_i e;have e2:∀m2:Machine,(if waitedFor m var=true then match Kernel.withPoller m.world.os with| .ok os=>some {m with world:={m.world with os}}| .error _=>none else some m)=some m2->m2.world.drawn=m.world.drawn:=by
    intro m2 e
    repeat' split at e
    all_goals first|(cases e;done)|(cases e;rfl)
   grind
  ·grind
 |deadline a b c d=>simp only[timerOp]at h;cases h;rfl
theorem Uw(p:Program)(m:Machine)(i:Nat)(b:Bool):sD m.world.drawn (runT p m i b).1:=by
 unfold runT;simp only[];have h:=P9 p (i==0) b (m.gs.swapAt! i {(default:Goroutine)with status:=.finished}).1 m.world;generalize stepG p (i==0) (m.gs.swapAt! i {(default:Goroutine)with status:=.finished}).1 m.world b=s at h ⊢;cases s
 all_goals simp only[]
 all_goals try exact h
 all_goals try trivial
 ·exact sD.trans h (Bp ..)
 ·exact Rl trivial h
 ·split
  ·rename_i e;exact bu h (xQ (B6 e).symm)
  ·split
   ·rename_i e;cases e;exact h
   ·trivial
  ·trivial
  ·trivial
 ·split
  ·exact h
  ·split
   ·rename_i e;cases e;exact h
   ·trivial
  ·trivial
 ·exact sD.trans h (MJ ..)
def Pb(n:Nat):Move->Prop
 | .goroutine m _=>n<=m.world.drawn
 | .machine s _=>sD n s
theorem Pb.trans{n k:Nat}{s:Move}(h:n<=k)(g:Pb k s):Pb n s:=by
 cases s with
 |goroutine m i=>exact bu h g
 |machine s o=>exact sD.trans h g
theorem BD(p:Program)(m:Machine):Pb m.world.drawn (askOn p m):=by
 have pick:∀(m:Machine)(rs:List Nat),Pb m.world.drawn (match(choose (.sched rs.length)).run p m.world with
   | .halt _ w=>.machine (.ended (.stuck "sched" "") w)
   | .ok k world=>
    if rs.length<=1 then .goroutine {m with world} (rs.getD k 0)else
    match(choose (.extern "sched.slice" 65536)).run p world with
    | .halt _ w=>.machine (.ended (.stuck "sched.slice" "") w)
    | .ok n world=>.goroutine {m with world,rest:={m.rest with slice:=if n=0 then none else some (rs.getD k 0,n)}} (rs.getD k 0)):=by
  intro m rs;split
  ·trivial
  ·rename_i w1 e;have h:m.world.drawn<=w1.drawn:=cS e;split
   ·exact h
   ·split
    ·trivial
    ·rename_i e;exact bu h (cS e)
 unfold askOn;simp only[];split
 ·trivial
 ·rename_i k w1 e;have h:m.world.drawn<=w1.drawn:=cS e;clear e;split
  ·exact sD.trans h (Qz p {m with world:=w1} _)
  ·split
   ·split
    ·exact h
    ·split
     ·exact h
     ·split<;>trivial
   ·split
    ·exact Pb.trans h (pick {m with world:=w1} _)
    ·split
     ·trivial
     ·rename_i w2 e;exact Pb.trans (bu h (cS e)) (pick {m with world:=w2} _)
     ·rename_i e;exact bu h (cS e)
     ·rename_i k2 w2 e;exact Pb.trans (bu h (cS e)) (pick (Machine.advanceTo {m with world:=w2} _) _)
theorem Nf(p:Program)(m:Machine):Pb m.world.drawn (ask p m):=by
 unfold ask;split
 ·split
  ·trivial
  ·rename_i w1 e;have h:m.world.drawn<=w1.drawn:=cS e;have h2:=MJ p m.gs m.rest w1;split
   ·rename_i e2;rw[e2]at h2;exact Pb.trans (bu h h2) (BD ..)
   ·exact sD.trans h h2
  ·rename_i w1 _ e;have h:m.world.drawn<=w1.drawn:=cS e;exact Pb.trans h (BD p {m with world:=w1})
 grind[BD]
theorem UO(p:Program)(m:Machine):Pb m.world.drawn (move p m):=by
 unfold move;split
 ·split
  ·exact af _
  ·trivial
 ·split
  ·split
   ·exact af _
   ·exact Nf p {m with rest:={m.rest with slice:=none}}
  grind[Nf]
theorem UJ(p:Program)(m:Machine):sD m.world.drawn (step p m):=by
 unfold step stepT;have h:=UO p m;split
 ·rename_i e;rw[e]at h;exact sD.trans h (Uw ..)
 ·rename_i e;rw[e]at h;exact h
theorem LA(p:Program):∀(n:Nat)(m m':Machine),runN p n m=.next m'->m.world.drawn<=m'.world.drawn
 |0,m,m',h=>by cases h;omega
 |n+1,m,m',h=>by
  rw[runN]at h;have h1:=UJ p m;split at h
  ·rename_i e;rw[e]at h1;exact bu h1 (LA p n _ _ h)
  simp_all
theorem P7{p:Program}{m m':Machine}(h:Steps p m m'):m.world.drawn<=m'.world.drawn:=by
 obtain⟨n,h⟩:=h;exact LA p n m m' h
theorem IH{p:Program}{f:FuncId}{args:Array Value}{w:World}{R:Ending->World->Prop}(h:Calls p f args w R):Calls p f args w fun e w'=>R e w'/\((∃v,e=.returned v)->w.drawn<=w'.drawn):=by
 intro cs;obtain⟨e,w',fr,h1,h2,h3,h4⟩:=h cs;refine⟨e,w',fr,⟨h1,?_⟩,h2,h3,h4⟩
 rintro⟨v,rfl⟩
 exact P7 (m:=lone _ cs w) (m':=lone fr cs w') h2
end Go.Ev
namespace Go.Ev
open Go Go.RowKit
section
variable{P:Program}{G:fy}{pl:Pl}{M:dT}{h:AHeap}{w w':World}{f:FuncId}{args:List AV}{v:AV}
theorem cN.below(hr:cN pl M h w)(hb:Below w.heap.size w w'):cN pl M h w':=
 ⟨hr.dom,fun id p o h1 h2=>by rw[hb.block _ (hr.blk id p h1)];exact hr.obj id p o h1 h2,fun id p h1=>F5 (hr.blk id p h1) hb.size,hr.inj,
  fun b c h1=>by rw[hb.block _ (hr.memLt h1)];exact hr.imm b c h1,hr.sep⟩
theorem dQ.below(hb:Below w.heap.size w w')(hd:w.drawn<=w'.drawn):dQ h pl M w h pl M w':=⟨n8.refl _,fun _ _ h=>h,fun _ _ h=>h,hb.size,fun b h1 _=>hb.block b h1,fun id p h=>.inl ⟨p,h,rfl⟩,fun _ _ _ h=>h,fun _ _ h _=>h,fun _ _ h=>.inl h,hb.os,hb.tape,hb.output,hd⟩
theorem bY.below(hE:∀vs w,(callFunc f vs).run P w=.ok (.enter f vs) w)
  (hC:∀(pl:Pl)(M:dT)(w:World)(vs:Array Value)(h:AHeap),qr G pl M->cN pl M h w->VRels pl M args vs->∃cv,VRel pl M v cv/\Calls P f vs w fun e w'=>e=.returned cv/\Below w.heap.size w w'):bY P G f args v:=by
 intro h pl M w vs hG hr hv;obtain⟨cv,h1,h2⟩:=hC pl M w vs h hG hr hv;refine .inl ⟨hE _ _,Calls.mono (IH h2) fun e w' ⟨⟨he,hb⟩,hd⟩=>?_⟩;exact⟨cv,v,h,he,⟨rfl,rfl⟩,pl,M,h1,hr.below hb,dQ.below hb (hd ⟨_,he⟩),af _⟩
theorem bY.calls(hGT:jc G)(hE:∀vs w,(callFunc f vs).run P w=.ok (.enter f vs) w)(hp:bY P G f args v)(hG:qr G pl M)(hr:cN pl M h w){vs:Array Value}(hv:VRels (fun _=>none) M args vs):
  Calls P f vs w fun e w'=>(∃cv pl' M',e=.returned cv/\VRel pl' M' v cv)/\Below w.heap.size w w'/\w.drawn<=w'.drawn:=by
 have r0:cN (fun _=>none) M AHeap.none w:=⟨fun _ _ h=>(by grind),fun _ _ _ h _=>(by grind),fun _ _ h=>(by grind),fun _ _ _ _ h _ _=>(by grind),hr.imm,fun _ _ h=>(by grind)⟩
 rcases hp AHeap.none (fun _=>none) M w vs (hG.none hGT) r0 hv with⟨_,h2⟩|⟨cv,w1,v1,h1,e1,_,_⟩
 ·refine Calls.mono h2 fun e w' ⟨cv,v1,h1,he,⟨e1,e2⟩,pl',M',g1,g2,g3,_⟩=>?_
  subst e1;exact⟨⟨cv,pl',M',he,g1⟩,⟨g3.os,g3.tape,g3.out,g3.size,fun b hb=>g3.kept b hb fun id p h=>(by grind)⟩,g3.drawn⟩
 ·grind
end
def RB(lo hi:Int)(c:UInt8):Bool:=aj (aL (.ofNat c.toNat) lo||aL hi (.ofNat c.toNat))
abbrev kc:UInt8->Bool:=RB 48 57
abbrev YF:UInt8->Bool:=RB 65 90
def eN(p:UInt8->Bool)(s:au):Nat:=(s.takeWhile p).length
section
variable{p:UInt8->Bool}{s:au}
theorem LB:eN p s<=s.length:=(List.takeWhile_prefix p).length_le
theorem LC:∀{s:au}{i:Nat},i<eN p s->p (gD s i)=true
 |[],i,h=>by simp_all[eN]
 | c::r,i,h=>by
  cases hc:p c with
  |false=>simp_all[eN]
  |true=>
   cases i with
   |zero=>exact hc
   |succ i=>exact LC (s:=r) (by simp_all[eN])
theorem GI:∀{s:au},eN p s<s.length->p (gD s (eN p s))=false
 |[],h=>by simp_all
 | c::r,h=>by
  cases hc:p c with
  |false=>simp[eN,hc,gD]
  |true=>
   have h2:eN p r<r.length:=by simp_all[eN]
   have:=GI (s:=r) h2;simp_all[eN,gD]
theorem wz:∀{s:au},eN p s=s.length↔s.all p=true
 |[]=>by simp[eN]
 |c::r=>by
  have ih:eN p r=r.length↔r.all p=true:=wz;cases hc:p c with
  |false=>simp[eN,hc]
  |true=>simp_all[eN]
end
theorem YQ{lo hi:Int}{c:UInt8}(h1:aL hi (.ofNat c.toNat)=true):RB lo hi c=false:=by grind[RB]
def gI(s:au):Bool:=aj (aL (.ofNat (s.take (eN kc s)).length) 1)&&(aj (aL 4 (.ofNat (s.take (eN kc s)).length))&&(aj (aa (.ofNat (gD (s.take (eN kc s)) 0).toNat) 48)&&(aj (aL 3 (.ofNat (s.drop (eN kc s)).length))&&(s.drop (eN kc s)).all YF)))
def qv(s:au):Bool:=aj (aL (.ofNat s.length) 1)&&(aj (aL 24 (.ofNat s.length))&&s.all (RB 33 126))
def mA(l:List au):Bool:=aj (aL 256 (.ofNat l.length))&&l.all qv
theorem EN:({data:=#[]}:ByteArray).data.toList=([]:List UInt8):=rfl
theorem Sn(s:au):aL (.ofNat s.length) 1=dH s []:=by cases s<;>rfl
def eZ{α:Type}(p:α->Bool):List α->Nat->Int
 |[],_=> -1
 |x::r,i=>bif p x then Int.ofNat i else eZ p r (i+1)
theorem mq{α:Type}(p:α->Bool):∀(l:List α)(i:Nat),aL (eZ p l i) 0=aj (l.any p)
 |[],_=>rfl
 |x::r,i=>by
  unfold eZ;rw[List.any_cons];cases h:p x with
  |true=>rfl
  |false=>simp_all[mq]
section
variable{α:Type}{p:α->Bool}{l x r:List α}{w:α}{j:Nat}
theorem pX(h1:l.drop j=x)(h2:x=w::r):l.length-(w::r).length=j/\l.length-r.length=j+1:=by grind
theorem mO(h1:l.drop j=x)(h2:x=w::r)(h3:eZ p l 0=eZ p (w::r) (l.length-(w::r).length))(h4:p w=true):eZ p l 0=Int.ofNat j:=by rw[h3,(pX h1 h2).1,eZ,h4];rfl
theorem kR(h1:l.drop j=x)(h2:x=w::r)(h3:eZ p l 0=eZ p (w::r) (l.length-(w::r).length))(h4:p w=false):eZ p l 0=eZ p r (l.length-r.length):=by rw[h3,(pX h1 h2).1,(pX h1 h2).2,eZ,h4];rfl
end
def iR(s:PStep):Bool:=aa s.kind 0&&dH s.label []
def nw(s:PStep):Bool:=aL 0 s.kind&&(aj (aL 7 s.kind)&&gI s.label)
def LZ:List PStep->Bool
 |[]=>true
 |s::r=>(iR s||nw s)&&r.all nw
def jZ(p:List PStep):Bool:=LZ p&&aj (aL 9 (.ofNat p.length))
def I6(p r:List PStep):Bool:=bif Nat.beq r.length p.length then LZ r else r.all nw
theorem PU{p:List PStep}:LZ p=I6 p p:=by simp_all[I6]
theorem Wb{p:List PStep}:I6 p []=true:=by unfold I6;cases Nat.beq ([]:List PStep).length p.length<;>rfl
theorem Fp{p x r:List PStep}{w:PStep}{j:Nat}(h1:p.drop j=x)(h2:x=w::r)(h3:LZ p=I6 p (w::r)):LZ p=((bif aa (Int.ofNat j) 0 then(iR w||nw w)else nw w)&&I6 p r):=by
 obtain⟨e1,e2⟩:=pX h1 h2;have e3:=congrArg List.length (h1.trans h2);simp only[uy,cO]at e1 e2 e3;have f1:Nat.beq r.length p.length=false:=by cases h:Nat.beq r.length p.length with|false=>rfl|true=>grind[Nat.eq_of_beq_eq_true]
 rw[h3];unfold I6;rw[f1];cases j with
 |zero=>
  have f2:Nat.beq (w::r).length p.length=true:=by simp_all
  rw[f2];rfl
 |succ j=>
  have f2:Nat.beq (w::r).length p.length=false:=by cases h:Nat.beq (w::r).length p.length with|false=>rfl|true=>simp_all
  rw[f2];rfl
def bL:Int->au
 |0=>[98,111,111,107]
 |1=>[112,97,114,116]
 |2=>[115,101,99,116,105,111,110]
 |3=>[112,97,114,97,103,114,97,112,104]
 |4=>[116,97,98,108,101]
 |5=>[114,111,119]
 |6=>[99,101,108,108]
 |7=>[110,111,116,101]
 |_=>[]
def EU:Int->List Int
 |0=>[1,2]
 |1=>[2]
 |2=>[3,4,7]
 |3=>[3,4,7]
 |4=>[5]
 |5=>[6]
 |_=>[]
def iz(p k:Int):Bool:=(EU p).any (aa k)
theorem J4{k:Int}(h1:0<=k)(h2:k<=7):k=0\/k=1\/k=2\/k=3\/k=4\/k=5\/k=6\/k=7:=by omega
theorem AE{k:Int}(h:k<0\/7<k):bL k=[]:=by
 unfold bL;grind
theorem zf{k:Int}(h:k<0\/7<k):EU k=[]:=by
 unfold EU;grind
end Go.Ev
namespace Go.Ev
open Go Go.RowKit Go.Proofs
structure ClassOf(p:UInt8->Bool)(q:Nat->Bool):Prop where
 low:∀c:UInt8,c.toNat<128->q c.toNat=aj (p c)
 high:∀n,128<=n->q n=true
 none:∀c:UInt8,128<=c.toNat->p c=false
theorem Vr{s:au}{i:Nat}(h:i<s.length)(h2:i<ByteArray.size ⟨⟨s⟩⟩):(ByteArray.mk ⟨s⟩)[i]'h2=gD s i:=by
 simp[gD,List.getD,mn h];rfl
theorem vk{p:UInt8->Bool}{q:Nat->Bool}(hc:ClassOf p q)(s:au):∀(f pos:Nat),pos<=eN p s->s.length<=pos+f->Lib.idxFuncFrom q true ⟨⟨s⟩⟩ f pos=(bif Nat.beq (eN p s) s.length then -1 else Int.ofNat (eN p s))
 | f,pos,h1,h2=>by
  have hl:=LB (p:=p) (s:=s);have hsz:ByteArray.size ⟨⟨s⟩⟩=s.length:=rfl;by_cases he:pos<s.length
  ·cases f with
   |zero=>omega
   | succ f=>
    unfold Lib.idxFuncFrom;rw[hsz,if_pos he];have hb:=Vr he (by rw[hsz];exact he);by_cases hr:pos<eN p s
    ·have hp:=LC hr;have ha:(gD s pos).toNat<128:=by
      rcases gQ (gD s pos).toNat 128 with h|h
      ·exact h
      ·rw[hc.none _ h]at hp;cases hp
     rw[decode_ascii _ pos (by rw[hsz];exact he) (by rw[hb];exact ha),hb];rw[if_neg (by rw[hc.low _ ha,hp];decide)];exact vk hc s f (pos+1) hr (by omega)
    ·have e:eN p s=pos:=by omega
     have hp:=GI (p:=p) (s:=s) (by omega);rw[e]at hp;have hq:q (Utf8.decode ⟨⟨s⟩⟩ pos).1=true:=by
      rcases gQ (gD s pos).toNat 128 with h|h
      ·rw[decode_ascii _ pos (by rw[hsz];exact he) (by rw[hb];exact h),hb,hc.low _ h,hp];rfl
      ·exact hc.high _ (decode_high _ pos (by rw[hsz];exact he) (by rw[hb];exact h)).1
     rw[if_pos hq,e];have f1:Nat.beq pos s.length=false:=by cases h:Nat.beq pos s.length with|false=>rfl|true=>have:=qx h;omega
     rw[f1];rfl
  ·have e:eN p s=s.length:=by omega
   rw[Lib.idxFuncFrom_end _ _ _ _ _ (by rw[hsz];exact he),e,qH];rfl
theorem xC{p:UInt8->Bool}{q:Nat->Bool}(hc:ClassOf p q)(s:au):Lib.idxFunc q true ⟨⟨s⟩⟩=(bif Nat.beq (eN p s) s.length then -1 else Int.ofNat (eN p s)):=vk hc s _ 0 (b8 _) (by show s.length<=0+s.length;omega)
section
variable{P:Program}{G:fy}{f g:FuncId}
theorem C3{pl:Pl}{M:dT}{w:World}{h:AHeap}(hGT:jc G)(hg2:∀args w,(callFunc g args).run P w=.ok (.enter g args) w){q:Nat->Bool}{qI:Int->Bool}(hp:∀r:Int,bY P G g [.int .i32 r] (.bool (qI r)))(hq:∀n:Nat,qI (.ofNat n)=q n)
  (hG:qr G pl M)(hr:cN pl M h w):PredGrows P g #[] q w:=by
 intro W x _ hb;refine Calls.mono (bY.calls hGT hg2 (hp (.ofNat x)) hG (hr.below hb) (vs:=#[.int .i32 (.ofNat x)]) ⟨rfl,fun j y hj=>?_⟩) fun e w' ⟨⟨cv,pl',M',he,hv⟩,hb',_⟩=>?_
 ·cases j with
  |zero=>simp at hj;subst hj;exact .int _ _
  |succ j=>simp_all
 grind[cases VRel]
theorem AP(hGT:jc G)(hE:∀vs w,(callFunc f vs).run P w=.ok (.enter f vs) w)(hg2:∀args w,(callFunc g args).run P w=.ok (.enter g args) w){q:Nat->Bool}{qI:Int->Bool}
  (hC:∀(s:ByteArray)(w:World),PredGrows P g #[] q w->Calls P f #[.string s,.func (.func g) #[] #[]] w fun e w'=>e=.returned (.int .i64 (Lib.idxFunc q true s))/\Below w.heap.size w w')
  (hp:∀r:Int,bY P G g [.int .i32 r] (.bool (qI r)))(hq:∀n:Nat,qI (.ofNat n)=q n){p:UInt8->Bool}(hc:ClassOf p q)(s:au):
  bY P G f [.str s,.func (.func g) [] []] (.int .i64 (bif Nat.beq (eN p s) s.length then -1 else Int.ofNat (eN p s))):=by
 refine bY.below hE fun pl M w vs h hG hr hv=>?_
 obtain⟨a,b,rfl,hv1,hv2⟩:=BG hv;have e2:=AQ hv2;subst e2;cases hv1
 rw[<-xC hc s];exact⟨_,.int _ _,hC ⟨⟨s⟩⟩ w (C3 hGT hg2 hp hq hG hr)⟩
theorem vC(hGT:jc G)(hE:∀vs w,(callFunc f vs).run P w=.ok (.enter f vs) w)(hg2:∀args w,(callFunc g args).run P w=.ok (.enter g args) w){q:Nat->Bool}{qI:Int->Bool}
  (hC:∀(s:ByteArray)(w:World),PredGrows P g #[] q w->Calls P f #[.string s,.func (.func g) #[] #[]] w fun e w'=>e=.returned (.bool (decide (0<=Lib.idxFunc q true s)))/\Below w.heap.size w w')
  (hp:∀r:Int,bY P G g [.int .i32 r] (.bool (qI r)))(hq:∀n:Nat,qI (.ofNat n)=q n){p:UInt8->Bool}(hc:ClassOf p q)(s:au):
  bY P G f [.str s,.func (.func g) [] []] (.bool (aj (s.all p))):=by
 refine bY.below hE fun pl M w vs h hG hr hv=>?_
 obtain⟨a,b,rfl,hv1,hv2⟩:=BG hv;have e2:=AQ hv2;subst e2;cases hv1
 have e:aj (s.all p)=decide (0<=Lib.idxFunc q true ⟨⟨s⟩⟩):=by
  rw[xC hc s];cases ha:s.all p with
  |true=>rw[(wz (p:=p)).2 ha,qH];rfl
  | false=>
   have:Nat.beq (eN p s) s.length=false:=by
    cases hb:Nat.beq (eN p s) s.length with
    |false=>rfl
    |true=>grind[wz,Nat.eq_of_beq_eq_true]
   simp_all
 rw[e];exact⟨_,.bool _,hC ⟨⟨s⟩⟩ w (C3 hGT hg2 hp hq hG hr)⟩
end
theorem IC{lo hi:Nat}(h:hi<128):ClassOf (RB (Int.ofNat lo) (Int.ofNat hi)) fun n=>aL (Int.ofNat n) (Int.ofNat lo)||aL (Int.ofNat hi) (Int.ofNat n) where
 low c _:=by unfold RB;simp_all
 high n hn:=by rw[show aL (Int.ofNat hi) (Int.ofNat n)=true from nF (by grind)];simp_all
 none c hn:=YQ (nF (by grind))
end Go.Ev
namespace Go.Ev
open Go Go.RowKit
section
variable{P:Program}{G:fy}{f:FuncId}
theorem Jc{pl:Pl}{M:dT}{w:World}{h:AHeap}(hr:cN pl M h w){l:List au}{a:Addr}{n cap:Nat}(hv:VRel pl M (.ps (l.map nP) false) (.slice (some a) n cap))(hne:l≠[]):
  n=l.length/\n<=cap/\a=⟨a.block,a.off,none⟩/\a.block<w.heap.size/\∀(j:Nat)(x:ByteArray),(l.map fun s=>(⟨⟨s⟩⟩:ByteArray))[j]?=some x->w.cell? ⟨a.block,a.off+j,none⟩=some (.string x):=by
 cases hv with
 | ps hl ht hm hs hc=>
  rename_i sz c;have hne':l.map nP≠[]:=by simp_all
  obtain⟨m1,m2,m3,m4⟩:=hm hne';obtain⟨t,fr,hb⟩:=hr.imm _ _ m2;have hsz:sz=1:=by
   cases l with
   |nil=>simp_all
   |cons s r=>exact((hs (nP s) (by simp)).1).symm
  subst hsz;refine⟨by simp,hl,by rw[<-m1],hr.memLt m2,fun j x hj=>?_⟩;rw[qO]at hj;obtain⟨s,e1,rfl⟩:=F1.1 hj;have hlt:j<l.length:=(gZ.1 e1).1;have q:=hc j (nP s) 0 (.str s) (by simp_all) rfl;rw[Nat.mul_one,qj]at q;have hin:a.off+j<c.size:=by grind
  have e2:c[a.off+j]?=some (c.getD (a.off+j) undef):=by simp_all
  simp only[World.cell?,hb];simp only[Option.isSome_none,gP,if_false];rw[e2];cases hq:c.getD (a.off+j) undef<;>rw[hq]at q<;>cases q
  rfl
theorem Oi(hE:∀vs w,(callFunc f vs).run P w=.ok (.enter f vs) w)
  (hC:∀(bk o c:Nat)(xs:List ByteArray)(sep:ByteArray)(w:World),(∀(j:Nat) x,xs[j]?=some x->w.cell? ⟨bk,o+j,none⟩=some (.string x))->bk<w.heap.size->xs.length<=140737488355328->xs.length<=c->
   (Lib.join (xs.map (·.data.toList)) sep.data.toList).length<=140737488355328->
   Calls P f #[.slice (some ⟨bk,o,none⟩) xs.length c,.string sep] w fun e w'=>e=.returned (.string ⟨(Lib.join (xs.map (·.data.toList)) sep.data.toList).toArray⟩)/\Below w.heap.size w w')
  (hN:∀(a:Option Addr)(c:Nat)(sep:ByteArray)(w:World),Calls P f #[.slice a 0 c,.string sep] w fun e w'=>e=.returned (.string ⟨#[]⟩)/\w'=w)
  (l:List au)(sep:au)(h1:l.length<=140737488355328)(h2:(Lib.join l sep).length<=140737488355328):bY P G f [.ls (l.map nP),.str sep] (.str (Lib.join l sep)):=by
 refine bY.below hE fun pl M w vs h hG hr hv=>?_
 obtain⟨a,b,rfl,hv1,hv2⟩:=BG hv;cases hv2
 have nil (p:Option Addr) (cap:Nat) (hl:l=[]):∃cv,VRel pl M (.str (Lib.join l sep)) cv/\Calls P f #[.slice p 0 cap,.string ⟨⟨sep⟩⟩] w fun e w'=>e=.returned cv/\Below w.heap.size w w':=by
  subst hl;exact⟨.string ⟨⟨[]⟩⟩,.str _,Calls.mono (hN p cap ⟨⟨sep⟩⟩ w) fun e w' ⟨he,hw⟩=>⟨he,hw▸Below.refl _ _⟩⟩
 generalize hx:l.map nP=xs at hv1;cases hv1 with
 |lsn=>simp_all
 | lsp hp ht=>
  subst hx;by_cases hl:l=[]
  ·subst hl;cases hp with
   |ps=>simp_all
  ·have hp':=hp;cases hp with
   |ps=>
    rename_i a cap sz c _ _ _ _ _;obtain⟨e1,e2,e3,e4,e5⟩:=Jc hr hp' hl;have e6:(l.map fun s=>(⟨⟨s⟩⟩:ByteArray)).map (·.data.toList)=l:=by rw[List.map_map];exact List.map_id l
    have:=hC a.block a.off cap (l.map fun s=>⟨⟨s⟩⟩) ⟨⟨sep⟩⟩ w e5 e4 (by grind) (by grind) (by grind);rw[e6,<-e3,cJ,<-e1]at this;exact⟨.string ⟨⟨Lib.join l sep⟩⟩,.str _,this⟩
theorem GM(hE:∀vs w,(callFunc f vs).run P w=.ok (.enter f vs) w)
  (hC:∀(s:ByteArray)(c:Nat)(w:World),c<=9223372036854775807->s.size*c<=140737488355328->Calls P f #[.string s,.int .i64 c] w fun e w'=>e=.returned (.string ⟨(Lib.repeatL s.data.toList c).toArray⟩)/\Below w.heap.size w w')
  (s:au)(c:Nat)(h1:c<=9223372036854775807)(h2:s.length*c<=140737488355328):bY P G f [.str s,.int .i64 (.ofNat c)] (.str (Lib.repeatL s c)):=by
 refine bY.below hE fun pl M w vs h hG hr hv=>?_
 obtain⟨a,b,rfl,hv1,hv2⟩:=BG hv;cases hv1;cases hv2
 exact⟨.string ⟨⟨Lib.repeatL s c⟩⟩,.str _,hC ⟨⟨s⟩⟩ c w h1 h2⟩
theorem NE(hE:∀vs w,(callFunc f vs).run P w=.ok (.enter f vs) w)
  (hC:∀(s cs:ByteArray)(w:World),s.size<=9223372036854775807->cs.size<4294967281->(∀(j:Nat) b,cs.data.toList[j]?=some b->b.toNat<128)->
   Calls P f #[.string s,.string cs] w fun e w'=>e=.returned (.string ⟨(Lib.trimS s.data.toList cs.data.toList).toArray⟩)/\Below w.heap.size w w')
  (s cs:au)(h1:s.length<=9223372036854775807)(h2:cs.length<4294967281)(h3:∀b,b∈cs->b.toNat<128):bY P G f [.str s,.str cs] (.str (Lib.trimS s cs)):=by
 refine bY.below hE fun pl M w vs h hG hr hv=>?_
 obtain⟨a,b,rfl,hv1,hv2⟩:=BG hv;cases hv1;cases hv2
 exact⟨.string ⟨⟨Lib.trimS s cs⟩⟩,.str _,hC ⟨⟨s⟩⟩ ⟨⟨cs⟩⟩ w h1 h2 fun j b hj=>h3 b (bH hj)⟩
end
structure PId where
 a:Int
 i:Int
 n:Int
 deriving Inhabited,DecidableEq
noncomputable def aX(p:PId):AV:=.agg [.int .i64 p.a,.int .i64 p.i,.int .i64 p.n]
theorem Bc(p:PId):(aX p).top=0:=rfl
def am(u:TUnit):PId:=⟨u.act,u.item,u.n⟩
def bh(p q:PId):Bool:=aa p.a q.a&&(aa p.i q.i&&aa p.n q.n)
theorem sy{p q:PId}(h:bh p q=true):p=q:=by
 unfold bh at h;rw[bZ,bZ]at h;obtain⟨a,b,c⟩:=p;obtain⟨d,e,g⟩:=q;grind[i9]
theorem nM(p:PId):bh p p=true:=by simp[bh,bc]
abbrev eD(p:PId)(u:TUnit):Bool:=bh (am u) p
theorem gK:KeyOf PId true 3 [(0,1),(1,1),(2,1)] aX bh where
 eq a b:=by
  show yc [.int .i64 a.a,.int .i64 a.i,.int .i64 a.n] [.int .i64 b.a,.int .i64 b.i,.int .i64 b.n] [(0,1),(1,1),(2,1)]=_
  simp only[yc,jP,TR,KA,lk,bh];cases h1:aa a.a b.a<;>cases h2:aa a.i b.i<;>cases h3:aa a.n b.n<;>rfl
 t a b h:=sy h
 refl a:=nM a
 same a:=by simp[aX,kN,j5,jf,lk,bc]
 top a:=rfl
mutual
def nU:TUnit->Nat
 |⟨_,_,_,_,_,_,_,ks⟩=>1+eL ks
def eL:List TUnit->Nat
 |[]=>0
 |k::r=>nU k+eL r
end
mutual
def gd:TUnit->Nat
 |⟨_,_,_,_,_,_,_,ks⟩=>jL ks
def jL:List TUnit->Nat
 |[]=>0
 |k::r=>Nat.max (1+gd k) (jL r)
end
mutual
def bv:TUnit->List TUnit
 |⟨x1,x2,x3,x4,x5,x6,x7,ks⟩=>⟨x1,x2,x3,x4,x5,x6,x7,ks⟩::dD ks
def dD:List TUnit->List TUnit
 |[]=>[]
 |k::r=>bv k++dD r
end
mutual
def aE(p:PId):TUnit->List TUnit
 |⟨x1,x2,x3,x4,x5,x6,x7,ks⟩=>bif eD p ⟨x1,x2,x3,x4,x5,x6,x7,ks⟩then[⟨x1,x2,x3,x4,x5,x6,x7,ks⟩]else match be p ks with
  |[]=>[]
  |y::t=>⟨x1,x2,x3,x4,x5,x6,x7,ks⟩::y::t
def be(p:PId):List TUnit->List TUnit
 |[]=>[]
 |k::r=>match aE p k with
  |[]=>be p r
  |y::t=>y::t
end
theorem ju(u:TUnit):nU u=1+eL u.kids:=by cases u;rw[nU];rfl
theorem mL:eL []=0:=by rw[eL]
theorem bF(k:TUnit)(r:List TUnit):eL (k::r)=nU k+eL r:=by rw[eL]
theorem mR(u:TUnit):gd u=jL u.kids:=by cases u;rw[gd];rfl
theorem DD:jL []=0:=by rw[jL]
theorem KH(k:TUnit)(r:List TUnit):jL (k::r)=Nat.max (1+gd k) (jL r):=by rw[jL]
theorem da(u:TUnit):bv u=u::dD u.kids:=by cases u;rw[bv];rfl
theorem fS:dD []=[]:=by rw[dD]
theorem b7(k:TUnit)(r:List TUnit):dD (k::r)=bv k++dD r:=by rw[dD]
def de(u:TUnit):List PId:=(bv u).map am
def bG(l:List TUnit):List PId:=(dD l).map am
theorem ib(u:TUnit):de u=am u::bG u.kids:=by unfold de bG;rw[da];rfl
theorem lF:bG []=[]:=by unfold bG;rw[fS];rfl
theorem dS(k:TUnit)(r:List TUnit):bG (k::r)=de k++bG r:=by grind[de,bG,b7]
theorem EE:∀{l:List TUnit}{k:TUnit},k∈l->nU k<=eL l
 |x::r,k,h=>by
  rw[bF];rcases dP.1 h with rfl|h
  ·omega
  ·have:=EE h;omega
theorem gv{u k:TUnit}(h:k∈u.kids):nU k<nU u:=by rw[ju u];have:=EE h;omega
theorem JR(u:TUnit):0<nU u:=by grind[ju]
theorem yH:∀(l:List TUnit),l.length<=eL l
 |[]=>by simp_all
 |k::r=>by
  rw[bF,cO];have:=yH r;grind[JR]
theorem bg(u:TUnit):u.kids.length<nU u:=by grind[ju,yH]
theorem N7{l:List TUnit}(h:∀k,k∈l->(bv k).length=nU k):(dD l).length=eL l:=by
 induction l with
 |nil=>rw[fS,mL];rfl
 |cons k r ih=>grind[b7,bF]
theorem G0:∀(u:TUnit),(bv u).length=nU u:=TUnit.ind fun u ih=>by grind[da,ju,N7]
theorem vw(u:TUnit):(de u).length=nU u:=by grind[de,G0]
theorem SC{l:List TUnit}{n:Nat}(h:∀k,k∈l->1+gd k<=n):jL l<=n:=by
 induction l with
 |nil=>grind[DD]
 |cons k r ih=>grind[KH]
theorem FY:∀(u:TUnit),gd u<nU u:=TUnit.ind fun u ih=>by
 have:jL u.kids<=eL u.kids:=SC fun k hk=>by have:=ih k hk;have:=EE hk;omega
 grind[mR,ju]
section
variable{p:PId}{u w:TUnit}{r:List TUnit}
theorem fF(u:TUnit):aE p u=bif eD p u then[u]else match be p u.kids with|[]=>[]|y::t=>u::y::t:=by cases u;rw[aE];rfl
theorem kJ:be p []=[]:=by rw[be]
theorem pb(k:TUnit)(r:List TUnit):be p (k::r)=match aE p k with|[]=>be p r|y::t=>y::t:=by rw[be]
def bX(p:PId)(u:TUnit):Bool:=aj (aE p u).isEmpty
theorem uZ(h:bX p u=false):aE p u=[]:=by grind[bX]
theorem pN(h:bX p u=true):∃y t,aE p u=y::t:=by
 unfold bX at h;cases e:aE p u with
 |nil=>grind
 |cons x r=>simp_all
theorem jl(h:bX p u=true):aE p u≠[]:=by grind[pN]
theorem lP(h:eD p u=true):aE p u=[u]:=by rw[fF,h];rfl
theorem vv(h:eD p u=true):bX p u=true:=by unfold bX;rw[lP h];rfl
theorem fQ(h:bX p w=false):be p (w::r)=be p r:=by rw[pb,uZ h]
theorem nq(h:bX p w=true):be p (w::r)=aE p w:=by grind[pN,pb]
theorem GV(h:eD p u=false)(h2:be p u.kids=be p []):aE p u=[]:=by rw[fF,h,h2,kJ];rfl
theorem A5(h:eD p u=false)(h2:be p u.kids=be p []):bX p u=false:=by unfold bX;rw[GV h h2];rfl
theorem yl(h:eD p u=false)(h2:be p u.kids=be p (w::r))(h3:bX p w=true):aE p u=u::aE p w:=by grind[fF,nq,pN]
theorem M4(h:eD p u=false)(h2:be p u.kids=be p (w::r))(h3:bX p w=true):bX p u=true:=by unfold bX;rw[yl h h2 h3];rfl
end
theorem lO{p:PId}:∀(u:TUnit),(aE p u).length<=nU u:=TUnit.ind fun u ih=>by
 rw[fF];cases eD p u with
 |true=>exact JR u
 | false=>
  have key:∀(r:List TUnit),(∀k,k∈r->k∈u.kids)->(be p r).length<=eL r:=by
   intro r;induction r with
   |nil=>grind[kJ]
   |cons k r ihr=>grind[pb,bF]
  grind[ju]
def bC:TUnit:=⟨0,0,0,0,[],[],[],[]⟩
noncomputable def ch(p:PId)(u:TUnit):TUnit:=bif bX p u then gD (aE p u) ((aE p u).length -1)else bC
theorem Lv{p:PId}:∀(u:TUnit)(x:TUnit),x∈aE p u->x∈bv u:=TUnit.ind fun u ih=>by
 intro x hx;rw[fF]at hx;rw[da];cases h:eD p u with
 |true=>simp_all
 | false=>
  rw[h]at hx;simp only[cond_false]at hx;have key:∀(r:List TUnit),(∀k,k∈r->k∈u.kids)->∀x,x∈be p r->x∈dD r:=by
   intro r;induction r with
   |nil=>grind[kJ]
   |cons k r ihr=>grind[pb,b7]
  grind
noncomputable def ql(p:Int×au):AV:=.agg [.int .i64 p.1,.str p.2]
def lZ(a b:Int×au):Bool:=aa a.1 b.1&&dH a.2 b.2
theorem rD:∀(s:au),dH s s=true
 |[]=>rfl
 |c::r=>by simp only[dH,rD r,Bool.and_true];simp_all
theorem xP:∀{a b:au},dH a b=true->a=b
 |[],[],_=>rfl
 |c::r,d::q,h=>by
  simp only[dH,bZ]at h;rw[xP h.2,UInt8.toNat_inj.1 (qx h.1)]
theorem MC:KeyOf (Int×au) true 2 [(0,1),(1,2)] ql lZ where
 eq a b:=by
  show yc [.int .i64 a.1,.str a.2] [.int .i64 b.1,.str b.2] [(0,1),(1,2)]=_
  simp only[yc,jP,TR,KA,lk,lZ];cases h1:aa a.1 b.1<;>cases h2:dH a.2 b.2<;>rfl
 t a b h:=by
  simp only[lZ,bZ]at h;grind[i9,xP]
 refl a:=by simp[lZ,bc,rD]
 same a:=by simp[ql,kN,j5,jf,lk,bc,rD]
 top a:=rfl
noncomputable def dr(b:Bool):AV:=.bool b
theorem Bd(b:Bool):(dr b).top=0:=rfl
def FR{K:Type}(keq:K->K->Bool)(k:K)(l:List (K×Bool)):Bool:=(ip keq k l).getD false
section
variable{K:Type}{ag:Bool}{sz:Nat}{lv:List (Nat×Nat)}{kenc:K->AV}{keq:K->K->Bool}
theorem Hk(hk:KeyOf K ag sz lv kenc keq)(m:List (K×Bool))(k:K):eS (some (.bool false)) false (bw ag sz lv (kenc k) (an kenc dr m 0) 0)=some (.bool (FR keq k m)):=by
 rw[pE hk];unfold FR;cases ip keq k m with
 |none=>rfl
 |some v=>rfl
theorem Ly(hk:KeyOf K ag sz lv kenc keq)(m:List (K×Bool))(k:K):qt (an kenc dr m 0) m.length (kenc k) (.bool true) (bw ag sz lv (kenc k) (an kenc dr m 0) 0)=some (an kenc dr (fZ keq k true m) 0,(fZ keq k true m).length):=rP (f:=dr) hk k true m
end
def eM(l:List PWord):Bool:=aj (aL 256 (.ofNat l.length))&&mA (l.map fun w=>w.text)
def lD(pk:Int):List TUnit->List ((Int×au)×Bool)->Bool
 |[],_=>true
 |k::r,m=>iz pk k.kind&&(aj (FR lZ (k.kind,k.label) m)&&lD pk r (fZ lZ (k.kind,k.label) true m))
def j9(u:TUnit):Bool:=(bif aa u.kind 0 then dH u.label []&&aj (aL 0 (.ofNat (u.head.length+u.words.length)))else aj (dH (bL u.kind) [])&&(gI u.label&&(eM u.head&&eM u.words)))&&(lD u.kind u.kids []&&aj (aL 64 (.ofNat u.kids.length)))
def vP(q:TUnit->Bool)(u:TUnit):Bool:=(bv u).all q
theorem y9(q:TUnit->Bool)(u:TUnit):vP q u=(q u&&(dD u.kids).all q):=by grind[vP,da]
theorem PY(q:TUnit->Bool):(dD []).all q=true:=by rw[fS];rfl
theorem BM(q:TUnit->Bool)(k:TUnit)(r:List TUnit):(dD (k::r)).all q=(vP q k&&(dD r).all q):=by rw[b7,List.all_append];rfl
def CP(l:List PId)(m:List (PId×Bool)):List (PId×Bool):=l.foldl (fun m p=>fZ bh p true m) m
def cY:PId:=⟨0,0,0⟩
def RL(u:TUnit):Bool:=(FR bh cY (CP (de u) [])&&aa (.ofNat (CP (de u) []).length) 1)||(aa (.ofNat (CP (de u) []).length) (.ofNat (de u).length)&&(aa u.kind 0==eD cY u))
def ki(u:TUnit):Bool:=vP j9 u&&(aj (aL 8 (.ofNat (gd u)))&&(aj (aL 1024 (.ofNat (nU u)))&&RL u))
theorem bj{u k:TUnit}(h:k∈u.kids){x:TUnit}(hx:x∈bv k):x∈bv u:=by
 rw[da];refine dA _ ?_;generalize u.kids=l at h;induction l with
 |nil=>grind
 |cons y r ih=>grind[b7]
theorem cX(u:TUnit):u∈bv u:=by grind[da]
theorem yN{u k:TUnit}(h:k∈u.kids):k∈bv u:=bj h (cX k)
end Go.Ev
namespace Go.Ev
open Go
def dl{α:Type}(q:α->α->Bool):List α->List α->Bool
 |[],[]=>true
 |x::l,y::m=>q x y&&dl q l m
 |_,_=>false
theorem pQ{α:Type}{q:α->α->Bool}:∀{l m:List α},l.length≠m.length->dl q l m=false
 |[],[],h=>absurd rfl h
 |[],y::m,_=>rfl
 |x::l,[],_=>rfl
 |x::l,y::m,h=>by
  unfold dl;rw[pQ (l:=l) (m:=m) (fun e=>h (by simp[e]))];exact zq _
section
variable{α:Type}[Inhabited α]{q:α->α->Bool}{l m x r:List α}{w:α}{j:Nat}
theorem y6{m:List α}{j:Nat}(h:j<m.length):m.drop j=gD m j::m.drop (j+1):=by grind[List.drop_eq_getElem_cons,gD]
theorem l9(h1:l.drop j=x)(h2:x=w::r)(hl:l.length=m.length)(h3:dl q l m=dl q (w::r) (m.drop (l.length-(w::r).length))):dl q l m=(q w (gD m j)&&dl q r (m.drop (l.length-r.length))):=by
 have e:=congrArg List.length (h1.trans h2);simp only[uy,cO]at e;rw[h3,(pX h1 h2).1,(pX h1 h2).2,y6 (by omega),dl]
omit [Inhabited α]in
theorem rC(hl:l.length=m.length)(h3:dl q l m=dl q [] (m.drop (l.length-([]:List α).length))):dl q l m=true:=by rw[h3,iW,Nat.sub_zero,hl,List.drop_length];rfl
end
def Pg(a b:PWord):Bool:=dH a.text b.text&&(aa a.act b.act&&(aa a.item b.item&&aa a.at_ b.at_))
mutual
def OO:TUnit->TUnit->Bool
 |⟨a,i,n,k,l,h,w,ks⟩,v=>bh ⟨a,i,n⟩ (am v)&&(aa k v.kind&&(dH l v.label&&(dl Pg h v.head&&(dl Pg w v.words&&ON ks v.kids))))
def ON:List TUnit->List TUnit->Bool
 |[],[]=>true
 |k::r,[]=>false
 |k::r,x::s=>OO k x&&ON r s
 |[],x::s=>false
end
theorem Yf(u v:TUnit):OO u v=(bh (am u) (am v)&&(aa u.kind v.kind&&(dH u.label v.label&&(dl Pg u.head v.head&&(dl Pg u.words v.words&&dl OO u.kids v.kids))))):=by
 have key:∀(l m:List TUnit),ON l m=dl OO l m:=by
  intro l;induction l with
  |nil=>intro m;cases m<;>(rw[ON];rfl)
  |cons x l ih=>intro m;cases m with|nil=>rw[ON];rfl|cons y m=>rw[ON,ih];rfl
 cases u
 rw[OO,key];rfl
def JU(u v:AV):Prop:=(Sc v->Sc u)/\Les u.cells v.cells
theorem JU.refl(v:AV):JU v v:=⟨id,Les.refl _⟩
theorem JU.one{u v:AV}(hu:u.cells=[u])(hv:v.cells=[v])(hs:dW u=true)(h:Le u v):JU u v:=⟨fun _ y hy=>by simp_all,by rw[hu,hv];exact .cons h .nil⟩
inductive LesC:List AV->List AV->Prop
 |nil:LesC [] []
 |cons {u v:AV} {us vs:List AV} (h:JU u v) (k:LesC us vs):LesC (u::us) (v::vs)
theorem LesC.len{us vs:List AV}(h:LesC us vs):us.length=vs.length:=by
 induction h with
 |nil=>rfl
 |cons _ _ ih=>simp_all
theorem LesC.at_{us vs:List AV}(h:LesC us vs):∀(j:Nat)(u:AV),us[j]?=some u->∃v,vs[j]?=some v/\JU u v:=by
 induction h with
 |nil=>simp_all
 |cons h k ih=>grind
theorem FG{xs ys:List AV}{t:Bool}(h:LesC xs ys):Le (.ps xs false) (.ps ys t):=fun pl M v hv=>by
 cases hv with
 | @ps _ _ a cap sz c hl ht hm hs hc=>
  rw[<-h.len];refine .ps (sz:=sz) (c:=c) (by rw[h.len];omega) (fun h=>by grind) (fun hx=>?_) (fun x hx=>?_) fun i x j y hx hy=>?_
  ·have:ys≠[]:=fun e=>hx (qk (by rw[h.len,e];rfl))
   rw[h.len];simp_all
  ·obtain⟨i,hi⟩:=Cr hx;obtain⟨y,h1,h2,h3⟩:=h.at_ i x hi;have:=hs y (bH h1);exact⟨h3.len.trans this.1,h2 this.2⟩
  ·obtain⟨z,h1,_,h3⟩:=h.at_ i x hx;obtain⟨d,h4,h5⟩:=h3.at_ j y hy;exact h5 _ _ _ (hc i z j d h1 h4)
theorem Y4{xs ys:List AV}{t:Bool}(h:LesC xs ys)(h0:az xs=0):Le (.ls xs) (.ps ys t):=fun pl M v hv=>.lsp (FG h pl M v hv) h0
theorem Y5{xs ys:List AV}(h:LesC xs ys)(h0:az xs=0):Le (.ls xs) (.ls ys):=fun pl M v hv=>by
 cases hv with
 |lsn=>cases h;exact .lsn
 |lsp hv _=>exact .lsp (FG h pl M v hv) h0
theorem Le.pls{x:AV}{xs ys:List AV}(h:LesC (x::xs) ys):Le (.ps (x::xs) false) (.ls ys):=fun pl M v hv=>by
 cases hv with
 |lsn=>cases h
 |lsp hv _=>exact FG h pl M v hv
mutual
def B0:AV->AV->Bool
 | .ls xs,.nils=>xs.isEmpty
 | .ls xs,.ps ys _=>lV xs ys&&Nat.beq (az xs) 0
 | .ls xs,.ls ys=>lV xs ys&&Nat.beq (az xs) 0
 | .ps (x::xs) false,.ls ys=>lV (x::xs) ys
 | .ps xs false,.ps ys _=>lV xs ys
 | .agg us,.agg vs=>lV us vs&&us.all dW
 |u,v=>AV.same u v
def lV:List AV->List AV->Bool
 |[],[]=>true
 |a::us,b::vs=>B0 a b&&lV us vs
 |_,_=>false
end
theorem JU.same{u v:AV}(h:AV.same u v=true):Le u v/\JU u v:=by grind[AV.same_eq,Le.refl,JU.refl]
mutual
theorem sr:∀(u v:AV),B0 u v=true->Le u v/\JU u v:=fun u v h=>by
 unfold B0 at h;split at h
 ·rename_i xs;have e:xs=[]:=by simp_all
  subst e;exact⟨Le.nils,JU.one rfl rfl rfl Le.nils⟩
 ·rename_i xs ys t;have h:=mQ.1 h;have k:=Y4 (t:=t) (kZ xs ys h.1).2 (qx h.2);exact⟨k,JU.one rfl rfl rfl k⟩
 ·rename_i xs ys;have h:=mQ.1 h;have k:=Y5 (kZ xs ys h.1).2 (qx h.2);exact⟨k,JU.one rfl rfl rfl k⟩
 ·rename_i x xs ys;have k:=Le.pls (kZ (x::xs) ys h).2;exact⟨k,JU.one rfl rfl rfl k⟩
 ·rename_i xs ys t;have k:=FG (t:=t) (kZ xs ys h).2;exact⟨k,JU.one rfl rfl rfl k⟩
 ·rename_i us vs;have h:=mQ.1 h;have k:=kZ us vs h.1;exact⟨bV k.1 h.2,fun _ y hy=>kX.1 h.2 y hy,k.1⟩
 ·exact JU.same h
theorem kZ:∀(us vs:List AV),lV us vs=true->Les us vs/\LesC us vs:=fun us vs h=>by
 unfold lV at h;split at h
 ·exact⟨.nil,.nil⟩
 ·rename_i a us b vs;have h:=mQ.1 h;have h1:=sr a b h.1;have h2:=kZ us vs h.2;exact⟨.cons h1.1 h2.1,.cons h1.2 h2.2⟩
 ·grind
end
section
variable{P:Program}{G:fy}{f:FuncId}{a b:List AV}{u v:AV}
theorem bY.args(h:bY P G f a v)(hl:Les a b):bY P G f b v:=fun hp pl M w vs hg hr hv=>h hp pl M w vs hg hr (hv.le hl)
theorem bY.lessB(h:bY P G f a v)(hl:B0 u v=true):bY P G f a u:=h.less (sr _ _ hl).1
theorem XE(a b:Nat):DU (.ofNat a) (.ofNat b)=.ofNat (Nat.max a b):=by
 unfold DU;cases h:aL (.ofNat a) (.ofNat b)with
 |true=>
  have h:=ap h;grind
 |false=>
  have h:=aG h;simp_all
theorem qi{xs ys:List AV}{i t:Nat}{r:List (Nat×Nat)}{x y:AV}{e c:Bool}(hx:jP xs i=some x)(hy:jP ys i=some y)(h:KA t x y=some e)(k:yc xs ys r=some c):yc xs ys ((i,t)::r)=some (e&&c):=by
 simp only[yc,hx,hy,TR,h];cases e with
 |true=>exact k
 |false=>rfl
theorem Dr{xs ys:List AV}{i t:Nat}{r:List (Nat×Nat)}{x y:AV}{e:Bool}(hx:jP xs i=some x)(hy:jP ys i=some y)(h:KA t x y=some e)(k:yc xs ys r=some true):yc xs ys ((i,t)::r)=some e:=by
 simp only[yc,hx,hy,TR,h];cases e with
 |true=>exact k
 |false=>rfl
theorem Fo{d:Option TypeDesc}{n:Nat}{l:List (Nat×Nat)}{xs ys:List AV}{c:Bool}{H:AHeap}(hn:(Nat.beq xs.length n&&Nat.beq ys.length n)=true)(hl:yc xs ys l=some c):
  bA H (T6 (qD .eql d (some true) (some n) (some l)) (some (.agg xs)) (some (.agg ys)))=some (.val (.bool c) H):=by
 grind[T6,qD,Yh,pp,bA]
theorem Fm{d:Option TypeDesc}{n:Nat}{l:List (Nat×Nat)}{xs ys:List AV}{c:Bool}{H:AHeap}(hn:(Nat.beq xs.length n&&Nat.beq ys.length n)=true)(hl:yc xs ys l=some c):
  bA H (T6 (qD .neq d (some true) (some n) (some l)) (some (.agg xs)) (some (.agg ys)))=some (.val (.bool (!c)) H):=by
 grind[T6,qD,Yh,pp,bA]
def xD:List (FuncId×List AV×AV)->aaQ
 |[],_,_,_=>none
 |x::r,g,b,h=>match Nat.beq g x.1 with
  |true=>(match lV x.2.1 b with|true=>some (x.2.2,h)|false=>xD r g b h)
  |false=>xD r g b h
theorem AR:∀{L:List (FuncId×List AV×AV)}{g:FuncId}{h h1:AHeap}{v1:AV},xD L g b h=some (v1,h1)->∃x,x∈L/\g=x.1/\lV x.2.1 b=true/\v1=x.2.2/\h1=h
 |[],_,_,_,_,e=>by grind[xD]
 | x::r,g,h,h1,v1,e=>by
  unfold xD at e;have next:xD r g b h=some (v1,h1)->∃y,y∈x::r/\g=y.1/\lV y.2.1 b=true/\v1=y.2.2/\h1=h:=fun e=>
   let⟨y,k,q⟩:=AR e
   ⟨y,dA _ k,q⟩
  grind[Nat.eq_of_beq_eq_true]
theorem RN{C:Cfg}{L:List (FuncId×List AV×AV)}(hC:C.hook=xD L)(hL:∀x,x∈L->bY C.P C.G x.1 x.2.1 x.2.2):LK C:=fun g b hp v1 h1 e pl M w vs hg hr hv=>by
 rw[hC]at e;obtain⟨x,hx,rfl,hl,rfl,rfl⟩:=AR e;rcases hL x hx h1 pl M w vs hg hr (hv.le (kZ _ _ hl).1)with⟨k1,k2⟩|⟨cv,w',v2,h2,k1,⟨rfl,rfl⟩,k3⟩
 ·refine .inl ⟨k1,fun cs=>?_⟩;obtain⟨en,w',fr,⟨cv,v2,h2,e1,⟨rfl,rfl⟩,k3⟩,r⟩:=k2 cs;grind
 ·exact .inr ⟨cv,w',k1,k3⟩
def Zf(v:AV):Option (AV×AHeap)->Bool
 |some (u,_)=>B0 v u&&Nat.beq u.top 0
 |none=>false
theorem bY.closed{C:Cfg}{k:Nat}(hG:jc C.G)(ev:cL C.P C.G (jz C k))(ht:az a=0)(h:Zf v (jz C k f a AHeap.none)=true):bY C.P C.G f a v:=by
 cases hx:jz C k f a AHeap.none with
 |none=>rw[hx]at h;cases h
 |some r=>
  obtain⟨u,h1⟩:=r;rw[hx]at h;have h:=mQ.1 h;exact(px hG ht (qx h.2) ((aN.of ev hx).mono fun v1 _ e=>e.1)).lessB h.1
end
end Go.Ev
namespace Go.Ev
open Go
theorem bY.ls0{P:Program}{G:fy}{f:FuncId}{r:List AV}{v:AV}(h1:bY P G f (.nils::r) v)(h2:bY P G f (.ps [] false::r) v):bY P G f (.ls []::r) v:=fun h=>FL (fun _ _ _ hv=>VRels.first hv fun _ hv=>hv.ls0) (h1 h) (h2 h)
theorem Sx{p:PId}{u:TUnit}(h:bX p u=true):ch p u∈aE p u:=by
 unfold ch;rw[h];have:=qN.2 (jl h);grind[gc]
theorem Th:∀(u:TUnit),mT u=(bv u).flatMap oQ:=by
 refine TUnit.ind fun u ih=>?_
 rw[Nl,da,zJ];congr 1;have key:∀(l:List TUnit),(∀k,k∈l->k∈u.kids)->lw l=(dD l).flatMap oQ:=by
  intro l;induction l with
  |nil=>intro _;rw[D9,fS];rfl
  |cons k r ihr=>grind[uz,b7]
 simp_all
theorem PG{p:PId}:∀(u:TUnit),bX p u=true->am (ch p u)=p:=by
 refine TUnit.ind fun u ih h=>?_
 unfold ch;rw[h];simp only[cond_true];cases hh:eD p u with
 |true=>rw[lP hh];exact sy hh
 | false=>
  have key:∀(r:List TUnit),(∀k,k∈r->k∈u.kids)->be p r≠[]->am (gD (be p r) ((be p r).length -1))=p:=by
   intro r;induction r with
   |nil=>grind[kJ]
   |cons k r ihr=>grind[nq,ch,fQ]
  have k2:=key u.kids fun _ h=>h
  obtain⟨y,t,e⟩:=pN h;rw[fF,hh]at e ⊢;grind[gD]
theorem E4{p:PId}:∀(u:TUnit),(∃x,x∈bv u/\am x=p)->bX p u=true:=by
 refine TUnit.ind fun u ih ⟨x,hx,hp⟩=>?_
 cases hh:eD p u with
 |true=>grind[vv]
 | false=>
  rw[da]at hx;rcases dP.1 hx with rfl|hx
  ·simp_all[eD,nM]
  ·have key:∀(l:List TUnit),(∀k,k∈l->k∈u.kids)->x∈dD l->be p l≠[]:=by
    intro l;induction l with
    |nil=>grind[fS]
    |cons k r ihr=>grind[b7,bX,nq,fQ]
   grind[bX,fF]
theorem DV{α β:Type}{f:α->β}:∀{l:List α},(l.map f).Nodup->∀{x y:α},x∈l->y∈l->f x=f y->x=y
 | a::l,h,x,y,hx,hy,e=>by
  rw[eg,Cf]at h;rcases dP.1 hx with h1|h1
  ·grind
  ·rcases dP.1 hy with h2|h2
   ·simp_all
   ·exact DV h.2 h1 h2 e
theorem DA{K V:Type}{kenc:K->AV}{f:V->AV}:∀(l:List (K×V))(i:Nat),(an kenc f l i).length=l.length
 |[],_=>rfl
 |(k,v)::r,i=>by rw[an,cO,DA r,cO]
theorem NR(m:List (PId×Bool)):CP [] m=m:=rfl
theorem Sl{n:Nat}(h:0<n):aa (Int.ofNat n) 0=false:=by grind[l8]
def Dm(p:PId):TUnit->Option TUnit:=fun u=>(bv u).find? (eD p)
theorem T3{p:PId}:∀(u:TUnit),(bX p u=true->Dm p u=some (ch p u))/\(bX p u=false->Dm p u=none):=by
 refine TUnit.ind fun u ih=>?_
 unfold Dm;rw[da];cases hh:eD p u with
 |true=>
  rw[List.find?_cons_of_pos (by omega)];refine⟨fun h=>?_,fun h=>by grind[vv]⟩;unfold ch;rw[h,lP hh];rfl
 | false=>
  rw[List.find?_cons_of_neg (by simp_all)];have key:∀(r:List TUnit),(∀k,k∈r->k∈u.kids)->(be p r≠[]->(dD r).find? (eD p)=some (gD (be p r) ((be p r).length -1)))/\(be p r=[]->(dD r).find? (eD p)=none):=by
   intro r;induction r with
   |nil=>grind[kJ,fS]
   |cons k r ihr=>
    intro hm;have ik:=ih k (hm k (ef ..));have ir:=ihr fun z hz=>hm z (dA _ hz)
    rw[b7,List.find?_append];cases hk:bX p k with
    |true=>grind[Dm,nq,jl,ch]
    |false=>grind[Dm,fQ]
  have k2:=key u.kids fun _ h=>h
  refine⟨fun h=>?_,fun h=>?_⟩
  ·obtain⟨y,t,e⟩:=pN h;unfold ch;rw[h,fF,hh];rw[fF,hh]at e;grind[gD]
  ·have e:=uZ h;grind[fF]
theorem gV(p:PId)(u:TUnit):eD p u=true↔am u=p:=⟨sy,fun h=>by simp_all[eD,nM]⟩
theorem JE{y x:TUnit}:∀(u:TUnit),y∈bv u->x∈bv y->x∈bv u:=by
 refine TUnit.ind fun u ih h hx=>?_
 rw[da]at h ⊢;rcases dP.1 h with rfl|h
 ·grind[da]
 ·refine dA _ ?_;have key:∀(l:List TUnit),(∀k,k∈l->k∈u.kids)->y∈dD l->x∈dD l:=by
   intro l;induction l with
   |nil=>grind[fS]
   |cons k r ihr=>grind[b7]
  simp_all
theorem fW{y x u:TUnit}(h:y∈bv u)(hx:x∈bv y):x∈bv u:=JE u h hx
theorem Qr{x:TUnit}:∀(u:TUnit),x∈bv u->nU x<=nU u:=by
 refine TUnit.ind fun u ih h=>?_
 rw[da]at h;rcases dP.1 h with rfl|h
 ·omega
 ·have key:∀(l:List TUnit),(∀k,k∈l->k∈u.kids)->x∈dD l->nU x<nU u:=by
   intro l;induction l with
   |nil=>grind[fS]
   |cons k r ihr=>grind[b7,Nat.lt_of_le_of_lt,gv]
  grind
theorem eA{x u:TUnit}(h:x∈bv u):nU x<=nU u:=Qr u h
section
variable{p:PId}{u w:TUnit}{r:List TUnit}
end
def lQ(a b:PStep):Bool:=aa a.kind b.kind&&dH a.label b.label
mutual
def FX:PItem->PItem->Bool
 |⟨k,a,t,w,n,u,o,ne,l,f,s,ac,im,d,e,bs⟩,v=>
  (aa k v.kind&&(aa w v.where_&&(aa n v.nth_&&(aa ac v.act&&(aa im v.item&&aa d v.day)))))
  &&((dH l v.label&&(dH f v.for_&&(dH e v.event&&(aa s.kind v.start.kind&&(aa s.day v.start.day&&dH s.event v.start.event)))))
  &&((dl lQ a v.at_&&(dl lQ t v.to&&(dl dH o v.old&&dl dH ne v.new)))
  &&(OO u v.unit&&Ds bs v.by_)))
def Ds:List PItem->List PItem->Bool
 |[],[]=>true
 |k::r,[]=>false
 |k::r,x::s=>FX k x&&Ds r s
 |[],x::s=>false
end
theorem Si:∀(l m:List PItem),Ds l m=dl FX l m:=by
 intro l;induction l with
 |nil=>intro m;cases m<;>(rw[Ds];rfl)
 |cons x l ih=>intro m;cases m with|nil=>rw[Ds];rfl|cons y m=>rw[Ds,ih];rfl
theorem VH(u v:PItem):FX u v=((aa u.kind v.kind&&(aa u.where_ v.where_&&(aa u.nth_ v.nth_&&(aa u.act v.act&&(aa u.item v.item&&aa u.day v.day)))))
  &&((dH u.label v.label&&(dH u.for_ v.for_&&(dH u.event v.event&&(aa u.start.kind v.start.kind&&(aa u.start.day v.start.day&&dH u.start.event v.start.event)))))
  &&((dl lQ u.at_ v.at_&&(dl lQ u.to v.to&&(dl dH u.old v.old&&dl dH u.new v.new)))
  &&(OO u.unit v.unit&&dl FX u.by_ v.by_)))):=by
 cases u
 rw[FX,Si];rfl
noncomputable def ED(s:au):Bool:=aj (aL (.ofNat s.length) 1)&&(aj (aL 16 (.ofNat s.length))&&(aj (aL (.ofNat (gD s 0).toNat) 97)&&(aj (aL 122 (.ofNat (gD s 0).toNat))&&dH (Lib.trimS s [97,98,99,100,101,102,103,104,105,106,107,108,109,110,111,112,113,114,115,116,117,118,119,120,121,122,48,49,50,51,52,53,54,55,56,57,45]) [])))
def sg(n:Bool)(s:PStart):Bool:=bif aa s.kind 0||aa s.kind 2 then aa s.day 0&&dH s.event []else bif aa s.kind 1 then(aj (aL s.day 0)&&aj (aL 1048576 s.day))&&dH s.event []else bif aa s.kind 3 then aa s.day 0&&n else false
def bN(s:PStep)(u:TUnit):Bool:=aa u.kind s.kind&&dH u.label s.label
def gH:List PStep->List TUnit->List TUnit
 |[],l=>l
 |s::r,l=>gH r (l.flatMap fun x=>x.kids.filter (bN s))
def dF(u:TUnit)(p:List PStep):List TUnit:=bif jZ p then(match p with
 |[]=>[u]
 |s::r=>gH r (bif iR s then[u]else(bv u).filter (bN s)))else[]
noncomputable def aH(u:TUnit)(p:List PStep):PId×Int:=match dF u p with
 |[]=>(cY,7)
 |[x]=>(am x,0)
 |_=>(cY,8)
def iZ(p:PId)(u:TUnit):Bool:=aj (aL (.ofNat (aE p u).length) 2)
noncomputable def Ja(p:PId)(u:TUnit):TUnit:=gD (aE p u) ((aE p u).length -2)
noncomputable def rx(p:PId)(u:TUnit):PId:=bif iZ p u then am (Ja p u)else cY
noncomputable def rj(p:PId)(u:TUnit):Int:=bif iZ p u then eZ (bX p) (Ja p u).kids 0 else -1
def pJ(p:PId)(u:TUnit):List PId:=(((aE p u).take ((aE p u).length -1)).map am).reverse
structure PSpot where
 id:PId
 at_:Int
 deriving Inhabited
noncomputable def fL(s:PSpot):AV:=.agg [.int .i64 s.id.a,.int .i64 s.id.i,.int .i64 s.id.n,.int .i64 s.at_]
def eb:PSpot:=⟨cY,0⟩
noncomputable def oU(u:TUnit)(p:PId)(n:Int):PSpot×Int:=bif iZ p u then(⟨rx p u,rj p u+n⟩,0)else(eb,9)
noncomputable def dx(w:Int)(u:TUnit)(p:PId):PSpot×Int:=bif aa w 0 then(⟨p,0⟩,0)else bif aa w 1 then(⟨p,.ofNat (ch p u).kids.length⟩,0)else bif aa w 2 then oU u p 1 else oU u p 0
def jK(n:Int):Bool:=aj (aL n 0)&&aj (aL 3 n)
def ce(act item:Int):List au->Nat->List PWord
 |[],_=>[]
 |s::r,n=>⟨s,act,item,.ofNat n⟩::ce act item r (n+1)
def b9(l:List PWord):List au:=l.map fun w=>w.text
theorem fg(a i:Int):∀(l:List au)(n:Nat),(ce a i l n).length=l.length
 |[],_=>rfl
 |s::r,n=>by rw[ce,cO,fg a i r,cO]
mutual
def co(a i:Int):TUnit->Nat->Nat->TUnit
 |⟨_,_,_,k,l,h,ws,ks⟩,n,w=>⟨a,i,.ofNat (n+1),k,l,ce a i (b9 h) w,ce a i (b9 ws) (w+h.length),dM a i ks (n+1) (w+h.length+ws.length)⟩
def dM(a i:Int):List TUnit->Nat->Nat->List TUnit
 |[],_,_=>[]
 |k::r,n,w=>co a i k n w::dM a i r (n+nU k) (w+(mT k).length)
end
theorem r8(a i:Int)(u:TUnit)(n w:Nat):co a i u n w=⟨a,i,.ofNat (n+1),u.kind,u.label,ce a i (b9 u.head) w,ce a i (b9 u.words) (w+u.head.length),dM a i u.kids (n+1) (w+u.head.length+u.words.length)⟩:=by cases u;rw[co];rfl
theorem xa(a i:Int)(n w:Nat):dM a i [] n w=[]:=by rw[dM]
theorem Ew(a i:Int)(k:TUnit)(r:List TUnit)(n w:Nat):dM a i (k::r) n w=co a i k n w::dM a i r (n+nU k) (w+(mT k).length):=by rw[dM]
def we(part:List au):Nat->List au->Nat->List Nat
 |0,_,_=>[]
 |f+1,l,i=>bif Nat.ble (i+part.length) l.length then(bif dl dH ((l.drop i).take part.length) part then i::we part f l (i+part.length)else we part f l (i+1))else[]
def tC(l part:List au):List Nat:=bif part.isEmpty then[]else we part (l.length+1) l 0
def pC(w:PWord):Bool:=aj (aa w.act 0&&(aa w.item 0&&aa w.at_ 0))
def DT(x:TUnit):Bool:=eD cY x&&(aj (x.head.any pC)&&aj (x.words.any pC))
def D0(u:TUnit):Bool:=ki u&&vP DT u
def iq(w:PWord):PWord:=⟨w.text,0,0,0⟩
mutual
def dX:TUnit->TUnit
 |⟨_,_,_,k,l,h,w,ks⟩=>⟨0,0,0,k,l,h.map iq,w.map iq,uC ks⟩
def uC:List TUnit->List TUnit
 |[]=>[]
 |k::r=>dX k::uC r
end
theorem zl:∀(l:List TUnit),uC l=l.map dX
 |[]=>by rw[uC];rfl
 |k::r=>by rw[uC,zl r];rfl
theorem m5(u:TUnit):dX u=⟨0,0,0,u.kind,u.label,u.head.map iq,u.words.map iq,u.kids.map dX⟩:=by cases u;rw[dX,zl];rfl
theorem RP{p:PId}{u:TUnit}(h:bX p u=false):iZ p u=false:=by unfold iZ;rw[uZ h];rfl
theorem Xn{p:PId}{u:TUnit}(h:iZ p u=false):rx p u=cY:=by unfold rx;simp_all
theorem QE{p:PId}{u:TUnit}(h:iZ p u=false):rj p u= -1:=by unfold rj;simp_all
theorem JF{p:PId}{u:TUnit}(h:iZ p u=true):rx p u=am (Ja p u):=by unfold rx;simp_all
theorem JG{p:PId}{u:TUnit}(h:iZ p u=true):rj p u=eZ (bX p) (Ja p u).kids 0:=by unfold rj;simp_all
def pK(p:PId)(u:TUnit)(k:Nat):List PId:=((((aE p u).take ((aE p u).length -1)).drop k).map am).reverse
theorem Fi(p:PId)(u:TUnit):pK p u 0=pJ p u:=rfl
theorem D8(p:PId)(u:TUnit):pK p u ((aE p u).length -1)=[]:=by
 unfold pK;simp_all
theorem BL(p:PId)(u:TUnit){k:Nat}(h:k+1<(aE p u).length):pK p u k=pK p u (k+1)++[am (gD (aE p u) k)]:=by
 unfold pK;have h1:k<((aE p u).take ((aE p u).length -1)).length:=by grind
 rw[Po h1,eg,List.reverse_cons];grind[gD]
theorem D7(p:PId)(u:TUnit)(k:Nat):(pK p u k).length<=(aE p u).length:=by grind[pK]
def mK(s:PStep)(u:TUnit):List TUnit:=(bv u).filter (bN s)
def dm(s:PStep)(l:List TUnit):List TUnit:=(dD l).filter (bN s)
theorem AK(s:PStep)(u:TUnit):mK s u=(bif bN s u then[u]else[])++dm s u.kids:=by
 unfold mK dm;rw[da,List.filter_cons];grind
theorem np(s:PStep):dm s []=[]:=by unfold dm;rw[fS];rfl
theorem iY(s:PStep)(k:TUnit)(r:List TUnit):dm s (k::r)=mK s k++dm s r:=by grind[mK,dm,b7]
theorem m7(s:PStep)(u:TUnit):(mK s u).length<=nU u:=by grind[mK,G0]
theorem tE:∀(l m:List TUnit),eL (l++m)=eL l+eL m
 |[],m=>by rw[mL,zV,gn]
 |x::r,m=>by rw[zx,bF,bF,tE r m,Nat.add_assoc]
theorem Ag(q:TUnit->Bool):∀(l:List TUnit),eL (l.filter q)<=eL l
 |[]=>by simp_all
 |x::r=>by
  rw[List.filter_cons,bF];have:=Ag q r;cases q x with
  |true=>rw[if_pos rfl,bF];omega
  |false=>grind
theorem Af(q:TUnit->Bool):∀(l:List TUnit),eL (l.flatMap fun x=>x.kids.filter q)<=eL l
 |[]=>by simp_all
 |x::r=>by
  rw[zJ,tE,bF];have:=Af q r;grind[Ag,ju]
theorem L6{n:Nat}:∀(l:List TUnit),(∀x,x∈l->nU x<=n)->eL l<=n*l.length
 |[],_=>by simp_all[mL]
 |x::r,h=>by
  rw[bF,cO,Nat.mul_add,Nat.mul_one];have:=h x (ef ..);have:=L6 r fun y hy=>h y (dA _ hy)
  omega
theorem HV(s:PStep)(u:TUnit)(hp:∀x,x∈bv u->nU x<=nU u):eL (mK s u)<=nU u*nU u:=by
 have h1:=L6 (n:=nU u) (mK s u) fun x hx=>hp x (zW.1 hx).1
 exact bu h1 (Nat.mul_le_mul_left _ (m7 s u))
theorem Jd(l:List TUnit):gH [] l=l:=rfl
theorem KK{u:TUnit}{p:List PStep}(h:jZ p=false):dF u p=[]:=by unfold dF;simp_all
theorem HO{u:TUnit}(h:jZ []=true):dF u []=[u]:=by unfold dF;simp_all
theorem HP{u:TUnit}{s:PStep}{r:List PStep}(h:jZ (s::r)=true)(hb:iR s=true):dF u (s::r)=gH r [u]:=by
 unfold dF;simp_all
theorem xG{u:TUnit}{s:PStep}{r:List PStep}(h:jZ (s::r)=true)(hb:iR s=false):dF u (s::r)=gH r (mK s u):=by
 unfold dF;rw[h];show gH r (bif iR s then[u]else(bv u).filter (bN s))=_
 rw[hb];rfl
def cM(s:PStep)(l:List TUnit):List TUnit:=l.flatMap fun x=>x.kids.filter (bN s)
section
variable{s:PStep}{l m r r1 X:List TUnit}{w w1:TUnit}{n N:Nat}{rs0:List PStep}{R at0:List TUnit}
theorem J5:cM s []=[]:=rfl
theorem xA:cM s (w::r)=w.kids.filter (bN s)++cM s r:=by grind[cM]
theorem Je(rs:List PStep):gH (s::rs) l=gH rs (cM s l):=rfl
theorem HY:eL (cM s l)<=eL l:=Af _ l
theorem fA(h:R=gH (s::rs0) l/\eL l<=N)(e:cM s []=cM s l):R=gH rs0 []/\eL []<=N:=⟨by rw[h.1,Je,<-e];rfl,by simp_all[mL]⟩
theorem fB(h:R=gH (s::rs0) l/\eL l<=N)(e:m++cM s []=cM s l):R=gH rs0 m/\eL m<=N:=by grind[J5,Je,HY]
theorem gA(h:cM s (w1::r1)=X):w1.kids.filter (bN s)++cM s r1=X:=xA.symm.trans h
theorem gB(h:n=m.length/\m++cM s (w1::r1)=X/\m.length+eL (w1::r1)<N):n=m.length/\m++(w1.kids.filter (bN s)++cM s r1)=X/\m.length+(eL w1.kids+eL r1)<N:=⟨h.1,xA (s:=s)▸h.2.1,by grind[bF,ju]⟩
theorem hA0(h:(w::r).filter (bN s)++cM s r1=X)(q:bN s w=false):r.filter (bN s)++cM s r1=X:=by simp_all
theorem hB0(h:n=m.length/\m++((w::r).filter (bN s)++cM s r1)=X/\m.length+(eL (w::r)+eL r1)<N)(q:bN s w=false):n=m.length/\m++(r.filter (bN s)++cM s r1)=X/\m.length+(eL r+eL r1)<N:=⟨h.1,by simp_all,by grind[bF]⟩
theorem hB1(h:n=m.length/\m++((w::r).filter (bN s)++cM s r1)=X/\m.length+(eL (w::r)+eL r1)<N)(q:bN s w=true):n+1=(m++[w]).length/\(m++[w])++(r.filter (bN s)++cM s r1)=X/\(m++[w]).length+(eL r+eL r1)<N:=⟨by simp_all,by simp_all,by grind[JR,bF]⟩
end
section
variable{p:PId}{u:TUnit}{i:Int}{l:List PId}
theorem PK(hn:i=Int.ofNat (aE p u).length -2)(h0:aL i 0=false):[am (gD (aE p u) i.toNat)]=pK p u (i-1+1).toNat:=by
 have h0:=aG h0;simp only[bW]at hn;have e:(i-1+1).toNat=i.toNat:=by omega
 rw[e,BL p u (k:=i.toNat) (by omega),show i.toNat+1=(aE p u).length -1 by omega,D8,zV]
theorem I3(h:l=pK p u (i+1).toNat)(hi:i+2<=(aE p u).length)(h0:aL i 0=false):l++[am (gD (aE p u) i.toNat)]=pK p u (i-1+1).toNat:=by
 have h0:=aG h0;grind[BL]
theorem Tc(h:l=pK p u (i+1).toNat)(hi: -1<=i)(h0:aL i 0=true):l=pJ p u:=by
 have h0:=ap h0;rw[h,show(i+1).toNat=0 by omega,Fi]
theorem Tb(hn:i=Int.ofNat (aE p u).length -2)(h0:aL i 0=true):pJ p u=[]:=by
 have h0:=ap h0;simp only[bW]at hn;rw[<-Fi];have:(aE p u).length -1=0:=by omega
 grind[D8]
end
theorem LP{s:PStep}{l m:List TUnit}(h:dm s l=m)(hm:m≠[]):l≠[]:=by grind[np]
theorem XW(l:List TUnit){z:AV}(hz:z.top=0):az (l.map aY++[z])=0:=kn.2 fun x hx=>by grind[iB]
theorem ph{l x r:List TUnit}{w:TUnit}{j:Nat}(h1:l.drop j=x)(h2:x=w::r):nU w+eL r<=eL l:=by
 have e:l=l.take j++(w::r):=by grind[List.take_append_drop]
 grind[tE,bF]
end Go.Ev
namespace Go.Ev
open Go
def rV(l:List au)(n:Int):Bool:=mA l&&aj (aL (.ofNat l.length) n)
def Ck(n:Int):Bool:=aj (aL n 0)&&aj (aL 256 n)
theorem uX{u:TUnit}(p:List PStep)(h:nU u<=2^11):(dF u p).length<=2^22:=by
 have key:∀(rs:List PStep)(l:List TUnit),eL (gH rs l)<=eL l:=by
  intro rs;induction rs with
  |nil=>intro l;exact af _
  |cons s r ih=>grind[Je,HY]
 unfold dF;cases jZ p with
 |false=>simp_all
 | true=>
  simp only[cond_true];cases p with
  |nil=>simp_all
  | cons s r=>
   simp only[];refine bu (yH _) (bu (key r _) ?_);cases iR s with
   |true=>grind[bF,mL]
   |false=>
    simp only[cond_false];have h1:=HV s u fun x hx=>eA hx
    have h2:nU u*nU u<=2^11*2^11:=Nat.mul_le_mul h h;exact bu h1 h2
theorem H6{u:TUnit}{p:List PStep}(h:dF u p=[]):aH u p=(cY,7):=by grind[aH]
theorem H5{u x:TUnit}{p:List PStep}(h:dF u p=[x]):aH u p=(am x,0):=by grind[aH]
theorem H4{u x y:TUnit}{r:List TUnit}{p:List PStep}(h:dF u p=x::y::r):aH u p=(cY,8):=by grind[aH]
def yK(own:PId)(i:Int)(ok:Bool)(n:Int):PSpot×Int:=bif ok then(⟨own,i+n⟩,0)else(eb,9)
def C2(e:Int)(sp:PSpot)(e2:Int):PSpot×Int:=bif aa e 0 then(bif aa e2 0 then(sp,0)else(eb,e2))else(eb,e)
def oe(p q own:PId)(at_:Int)(ok c bs:Bool)(sp:PSpot)(e:Int):PSpot×Int:=
 bif aj ok||((aj (bh q p)&&c)||(bh q p&&aj bs))then(eb,9)
 else bif bh q p then(⟨own,at_⟩,0)
 else bif aa e 0&&(bh sp.id own&&aL at_ sp.at_)then(⟨sp.id,sp.at_-1⟩,e)else(sp,e)
end Go.Ev
