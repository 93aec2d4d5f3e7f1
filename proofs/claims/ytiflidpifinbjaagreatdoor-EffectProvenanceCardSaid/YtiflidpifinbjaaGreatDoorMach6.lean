/- An abstract machine for runs of the program, proved sound against the model: part 6. No conditions. -/
import Derived.Test.YtiflidpifinbjaaGreatDoorMach5
import Derived.Shelf.SortM.Plain
import Derived.Shelf.SortM.SortNone
import Derived.Shelf.SlSortCmp.NoneTotal
import Derived.Shelf.SlicesG.CompactI
import Derived.Lib.QuietBelow
import GoSem.ClaimJoined
import Derived.Calls
import Derived.RunT
import Derived.Below
import Derived.Shelf.Strings.FuncGrows
import Derived.Laws.RangeAny
import Derived.Lib.Join
import Derived.Lib.Repeat
import Derived.Lib.SlTrimSet
namespace Go.Ev
open Go Go.Sort Go.Proofs
section
variable{P:Program}{G:fz}{pl:Pl}{M:dN}{h:AHeap}{w w':World}
theorem uq(hr:cS pl M h w){id:Nat}{p:Place}{sz:Nat}{op:Bool}{ep:Nat}{xs xs':laa}{c c':Array Value}{t:TypeId}(hp:pl id=some p)(hg:h.get id=some (.row sz op ep xs))
  (hb:w.heap[p.blk]?=some (.cells c t (0,0)))(hw:w'.heap[p.blk]?=some (.cells c' t (0,0)))(hcs:c'.size=c.size)(hlen:xs'.length=xs.length)(hel:∀x,x∈xs'->x.cells.length=sz/\Sc x)
  (hcell:∀i x j y,xs'[i]?=some x->x.cells[j]?=some y->VRel pl M y (c'.getD (i*sz+j) undef))(hs:WSame w w')(hsz:w.heap.size<=w'.heap.size)(hk:∀b,b<w.heap.size->b≠p.blk->w'.heap[b]?=w.heap[b]?):
  cS pl M (h.put id (.row sz op ep xs')) w'/\dK h pl M w (h.put id (.row sz op ep xs')) pl M w':=by
 have ho:=hr.obj id p _ hp hg;rw[hb]at ho;simp only[bm]at ho;obtain⟨h1,h2,h3,h4,h5,h6,h7,h8⟩:=ho;have e:=tK (pl:=pl) hp;have:=cS.change (p':=p) (o':=.row sz op ep xs') hr hp hg (.inl rfl) hs hsz hk (.inl rfl) (su.1 hw).1 (by
  rw[e,hw];simp only[bm];refine⟨h1,h2,by omega,by omega,trivial,h6,λe=>by simp_all,⟨?_,hel,λi x j y q1 q2=>?_⟩⟩
  ·grind[cases InMem]
  simp_all)
 simp_all
variable{β:Type}[Inhabited β]
theorem ry{enc:β->Value}{blk off n:Nat}{d:Array β}{os:Array Obj}{c:Array Value}{t:TypeId}{fr:Nat×Nat}(hb:w.heap[blk]?=some (.cells c t fr)):
  (grow (putRow enc (Sort.ahead w n) blk off d) os).heap[blk]?=some (.cells (putCells enc off d c) t fr):=by
 grind[grow,putRow,mapBlock,Sort.ahead,onCells]
theorem kF{enc:β->Value}{blk off n:Nat}{d:Array β}{os:Array Obj}{b:Nat}(hb:b<w.heap.size)(hne:b≠blk):
  (grow (putRow enc (Sort.ahead w n) blk off d) os).heap[b]?=w.heap[b]?:=by
 simp only[grow,putRow,mapBlock,Sort.ahead];grind
theorem oa{enc:β->Value}{blk off n:Nat}{d:Array β}{os:Array Obj}:WSame w (grow (putRow enc (Sort.ahead w n) blk off d) os):=⟨rfl,rfl,rfl,Nat.le_add_right _ _⟩
theorem Co{enc:β->Value}{blk off n:Nat}{d:Array β}{os:Array Obj}:w.heap.size<=(grow (putRow enc (Sort.ahead w n) blk off d) os).heap.size:=by simp_all
theorem ox{enc:β->Value}{d:Array β}{c:Array Value}{k:Nat}(hk:k<d.size)(hc:k<c.size):(putCells enc 0 d c).getD k undef=enc d[k]!:=by simp_all[putCells]
theorem qO(hr:cS pl M h w){id ep len sz:Nat}{op:Bool}{cap:lan}{xs:laa}{x:Value}(hv:VRel pl M (.slice id ep 0 len cap) x)(hg:h.get id=some (.row sz op ep xs))(hl:0<len):
  ∃p c t cap',pl id=some p/\w.heap[p.blk]?=some (.cells c t (0,0))/\x=.slice (some ⟨p.blk,0,none⟩) len cap'/\InMem pl M c 0 sz xs/\0<sz/\p.blk<w.heap.size:=by
 cases hv with
 | slice hp he hle hk ha=>
  rename_i cap' a p;have ho:=hr.obj id p _ hp hg;cases hb:w.heap[p.blk]? with
  |none=>grind[bm]
  |some ob=>
   rw[hb]at ho;cases ob<;>simp only[bm]at ho
   rename_i c t fr;obtain⟨h1,h2,h3,h4,h5,h6,h7,h8⟩:=ho;subst h5;obtain⟨k1,_⟩:=ha (by omega);have k2:a=⟨p.blk,0,none⟩:=by grind
   exact⟨p,c,t,_,hp,hb,by rw[k2],h8,h6,(su.1 hb).1⟩
def cT(zs:lak):lak:=zs.mergeSort λx y=>decide (x<=y)
theorem jR(zs:lak):(cT zs).Perm zs:=List.mergeSort_perm ..
theorem pb(zs:lak):(cT zs).Pairwise (λa b=>a<=b):=by
 have:=List.pairwise_mergeSort (le:=λx y:Int=>decide (x<=y)) (by grind) (by grind) zs;exact this.imp (by simp)
theorem DB{c:Array Value}{sz:Nat}{xs:laa}(hm:InMem pl M c 0 sz xs){i:Nat}{x:AV}(hx:xs[i]?=some x){j:Nat}(hj:j<sz):i*sz+j<c.size/\∃y,x.cells[j]?=some y/\VRel pl M y (c.getD (i*sz+j) undef):=by
 have h1:=hm.fit;have hi:=(fP.1 hx).1;have h2:=(hm.elem x (bC hx)).1;have h3:(i+1)*sz<=xs.length*sz:=e9 _ hi;rw[kQ]at h3;refine⟨by omega,x.cells[j],by simp_all,?_⟩;have:=hm.cell i x j _ hx (lE (by omega:j<x.cells.length));simp_all
theorem sM{f:FuncId}(hE:∀vs w,(callFunc f vs).run P w=.ok (.enter f vs) w)
  (hC:∀(blk off cap:Nat)(zs:lak)(w:World),Holds (Value.int .i64) w blk off zs.toArray->blk<w.heap.size->zs.length<4611686018427387904->
   Calls P f #[.slice (some ⟨blk,off,none⟩) zs.length cap] w λe w'=>e=.returned (.tuple #[])/\∃n os,w'=grow (putRow (Value.int .i64) (Sort.ahead w n) blk off (zs.mergeSort λx y=>decide (x<=y)).toArray) os)
  {id ep:Nat}{op:Bool}{cap:lan}(zs:lak)(hg:h.get id=some (.row 1 op ep (zs.map af)))(hz:0<zs.length)(hb:zs.length<4611686018427387904):
  aO P G f [.slice id ep 0 zs.length cap] h (λv h'=>v=.tuple []/\h'=h.put id (.row 1 op ep ((cT zs).map af))):=by
 intro pl M w vs hG hr hv;obtain⟨a,rfl,hv1⟩:=TM hv;obtain⟨p,c,t,cap',hp,hbl,rfl,hm,_,hlt⟩:=qO hr hv1 hg hz;have hcell:∀j z,zs[j]?=some z->j<c.size/\c.getD j undef=.int .i64 z:=by
  intro j z hj;have hx:(zs.map af)[j]?=some (af z):=by simp_all
  obtain⟨q1,y,q2,q3⟩:=DB hm hx (j:=0) (by omega);rw[Nat.mul_one,qK]at q1 q3;simp[af,AV.cells]at q2;subst q2;refine⟨q1,?_⟩;cases hq:c.getD j undef<;>rw[hq]at q3<;>cases q3
  rfl
 refine .inl ⟨hE _ _,Calls.mono (hC p.blk 0 cap' zs w (λj hj=>?_) hlt hb) λe w' ⟨he,n,os,hw⟩=>?_⟩
 ·have hj':j<zs.length:=by omega
  obtain⟨q1,q2⟩:=hcell j zs[j] (lE hj');rw[fx];refine⟨?_,?_⟩
  ·simp only[World.cell?,hbl];simp only[Option.isSome_none,gr,if_false];rw[GK q1];simp_all
  grind[World.frozen?]
 ·refine⟨.tuple #[],.tuple [],_,he,⟨rfl,rfl⟩,pl,M,rG,?_⟩;have hlen:(cT zs).length=zs.length:=(jR zs).length_eq;have hw1:w'.heap[p.blk]?=some (.cells (putCells (Value.int .i64) 0 (cT zs).toArray c) t (0,0)):=by rw[hw];exact ry hbl
  obtain⟨r1,r2⟩:=uq (w':=w') (xs':=(cT zs).map af) hr hp hg hbl hw1 (by simp[putCells]) (by simp_all) (λx hx=>by
    obtain⟨z,_,rfl⟩:=iO.1 hx;exact⟨rfl,λy hy=>by simp[af,AV.cells]at hy;subst hy;rfl⟩) (λi x j y q1 q2=>by
    rw[qC]at q1;obtain⟨z,e1,rfl⟩:=GJ.1 q1;have hi:=(fP.1 e1).1;cases j with
    |succ j=>grind[af,AV.cells]
    |zero=>
     simp[af,AV.cells]at q2;subst q2;rw[Nat.mul_one,qK,ox (by omega) (hcell i zs[i] (lE (by omega))).1];have:(cT zs).toArray[i]! =z:=by simp_all
     rw[this];exact .int _ _) (by grind[oa]) (by simp_all) (λb hb hne=>by grind[kF])
  exact⟨r1,r2,ar _⟩
def bW(zs:lak):lak:=Lib.compact zs
theorem yJ(zs:lak):(bW zs).length<=zs.length:=by grind[bW,Lib.compact,Lib.compactUpTo]
theorem pQ{f:FuncId}(hE:∀vs w,(callFunc f vs).run P w=.ok (.enter f vs) w)
  (hC:∀(blk off cap:Nat)(zs:lak)(w:World),Holds (Value.int .i64) w blk off zs.toArray->zs.length<=9223372036854775807->zs.length<=cap->
   Calls P f #[.slice (some ⟨blk,off,none⟩) zs.length cap] w λe w'=>e=.returned (.slice (some ⟨blk,off,none⟩) (Lib.compact zs).length cap)/\∃q,w'=putRow (Value.int .i64) (Sort.ahead w q) blk off (Lib.compact zs++List.replicate (zs.length-(Lib.compact zs).length) 0).toArray)
  {id ep:Nat}{op:Bool}(zs:lak)(hg:h.get id=some (.row 1 op ep (zs.map af)))(hz:0<zs.length)(hb:zs.length<4611686018427387904):
  aO P G f [.slice id ep 0 zs.length none] h (λv h'=>v=.slice id ep 0 (bW zs).length none/\h'=h.put id (.row 1 op ep ((bW zs++List.replicate (zs.length-(bW zs).length) 0).map af))):=by
 intro pl M w vs hG hr hv;obtain⟨a,rfl,hv1⟩:=TM hv;obtain⟨p,c,t,cap',hp,hbl,rfl,hm,_,hlt⟩:=qO hr hv1 hg hz;have hcell:∀j z,zs[j]?=some z->j<c.size/\c.getD j undef=.int .i64 z:=by
  intro j z hj;have hx:(zs.map af)[j]?=some (af z):=by simp_all
  obtain⟨q1,y,q2,q3⟩:=DB hm hx (j:=0) (by omega);rw[Nat.mul_one,qK]at q1 q3;simp[af,AV.cells]at q2;subst q2;refine⟨q1,?_⟩;cases hq:c.getD j undef<;>rw[hq]at q3<;>cases q3
  rfl
 have hle:=yJ zs;have hcap:zs.length<=cap':=by grind[cases VRel]
 generalize hnew:bW zs++List.replicate (zs.length-(bW zs).length) 0=ns;have hnl:ns.length=zs.length:=by grind
 refine .inl ⟨hE _ _,Calls.mono (hC p.blk 0 cap' zs w (λj hj=>?_) (by omega) hcap) λe w' ⟨he,n,hw⟩=>?_⟩
 ·have hj':j<zs.length:=by omega
  obtain⟨q1,q2⟩:=hcell j zs[j] (lE hj');rw[fx];refine⟨?_,?_⟩
  ·simp only[World.cell?,hbl];simp only[Option.isSome_none,gr,if_false];rw[GK q1];simp_all
  grind[World.frozen?]
 ·have hw2:w'=grow (putRow (Value.int .i64) (Sort.ahead w n) p.blk 0 ns.toArray) #[]:=by rw[hw,grow_empty];congr 2
  have hrel:VRel pl M (.slice id ep 0 (bW zs).length none) (.slice (some ⟨p.blk,0,none⟩) (bW zs).length cap'):=by
   cases hv1 with
   |slice hp he hl hk ha=>
    refine .slice hp he (by omega) hk λe=>?_
    grind
  refine⟨_,_,_,he,⟨rfl,rfl⟩,pl,M,hrel,?_⟩;have hw1:w'.heap[p.blk]?=some (.cells (putCells (Value.int .i64) 0 ns.toArray c) t (0,0)):=by grind[ry]
  obtain⟨r1,r2⟩:=uq (w':=w') (xs':=ns.map af) hr hp hg hbl hw1 (by simp[putCells]) (by simp_all) (λx hx=>by
    obtain⟨z,_,rfl⟩:=iO.1 hx;exact⟨rfl,λy hy=>by simp[af,AV.cells]at hy;subst hy;rfl⟩) (λi x j y q1 q2=>by
    rw[qC]at q1;obtain⟨z,e1,rfl⟩:=GJ.1 q1;have hi:=(fP.1 e1).1;cases j with
    |succ j=>grind[af,AV.cells]
    |zero=>
     simp[af,AV.cells]at q2;subst q2;rw[Nat.mul_one,qK,ox (by omega) (hcell i zs[i] (lE (by omega))).1];have:ns.toArray[i]! =z:=by simp_all
     rw[this];exact .int _ _) (by grind[oa]) (by simp_all) (λb hb hne=>by grind[kF])
  exact⟨r1,r2,ar _⟩
theorem ED{f:FuncId}(hE:∀vs w,(callFunc f vs).run P w=.ok (.enter f vs) w)
  (hC:∀(p:lbf)(cap:Nat)(w:World),Calls P f #[.slice p 0 cap] w λe w'=>e=.returned (.tuple #[])/\w'=w):aP P G f [.nils] (.tuple []):=by
 intro h pl M w vs hG hr hv;obtain⟨a,rfl,hv1⟩:=TM hv;cases hv1
 exact .inl ⟨hE _ _,Calls.mono (hC none 0 w) λe w' ⟨he,hw⟩=>⟨.tuple #[],.tuple [],h,he,⟨rfl,rfl⟩,pl,M,rG,by simp_all[StepF.refl]⟩⟩
theorem wY{f:FuncId}{g:Fn}(hE:∀vs w,(callFunc f vs).run P w=.ok (.enter f vs) w)
  (hC:∀(p:lbf)(cap:Nat)(fv:Value)(w:World),Calls P f #[.slice p 0 cap,fv] w λe w'=>e=.returned (.tuple #[])/\w'=w):aP P G f [.nils,.func g [] []] (.tuple []):=by
 intro h pl M w vs hG hr hv;obtain⟨a,b,rfl,hv1,hv2⟩:=B0 hv;cases hv1
 exact .inl ⟨hE _ _,Calls.mono (hC none 0 b w) λe w' ⟨he,hw⟩=>⟨.tuple #[],.tuple [],h,he,⟨rfl,rfl⟩,pl,M,rG,by simp_all[StepF.refl]⟩⟩
def FQ{α:Type}(cmp:α->α->Int)(a b:α):Bool:=decide (cmp a b<0)
theorem Cd{f g:FuncId}{sz:Nat}(hGT:jK G)(hE:∀vs w,(callFunc f vs).run P w=.ok (.enter f vs) w)(hg2:∀args w,(callFunc g args).run P w=.ok (.enter g args) w)
  (hC:∀(m:Nat)(enc:Fin (m+1)->lao)(cf:Fin (m+1)->Fin (m+1)->Int)(blk off cap:Nat)(d:Array (Fin (m+1)))(w:World),(∀x,(enc x).length=sz)->(∀x,∀v∈enc x,v.oneCell'=true)->SWO (ltOf cf)->
   CmpLays P g #[] enc sz cf blk off d.size w->HoldsK enc sz w blk off d->blk<w.heap.size->d.size<4611686018427387904->
   Calls P f #[.slice (some ⟨blk,off,none⟩) d.size cap,.func (.func g) #[] #[]] w λe w'=>e=.returned (.tuple #[])/\∃d' n os,PermIn 0 d.size d d'/\SortedIn (ltOf cf) 0 d.size d'/\w'=sortWorldK enc sz w blk off n d' os)
  {α:Type}[Inhabited α](enc:α->AV)(cmp:α->α->Int)(hO:SWO (FQ cmp))(hag:∀a,∃cs,enc a=.agg cs)(htop:∀a,(enc a).top=0)
  (l:List α)(hcmp:∀a,a∈l->∀b,b∈l->aP P G g [enc a,enc b] (.int .i64 (cmp a b)))
  {oid ep:Nat}{op:Bool}{cap:lan}(hg:h.get oid=some (.row sz op ep (l.map enc)))(hz:0<l.length)(hb:l.length<4611686018427387904):
  aO P G f [.slice oid ep 0 l.length cap,.func (.func g) [] []] h (λv h'=>∃l':List α,(l'.Perm l/\l'.Pairwise λa b=>FQ cmp b a=false)/\v=.tuple []/\h'=h.put oid (.row sz op ep (l'.map enc))):=by
 intro pl M w vs hG hr hv;obtain⟨a,fv,rfl,hv1,hv2⟩:=B0 hv;have e2:=Az hv2;subst e2;obtain⟨p,c,t,cap',hp,hbl,rfl,hm,hsz0,hlt⟩:=qO hr hv1 hg hz;obtain⟨m,hm1⟩:∃m,l.length=m+1:=⟨l.length-1,by omega⟩
 have hfit:=hm.fit;rw[cw,fx,hm1]at hfit;have helem:∀i:Fin (m+1),(l.map enc)[i.1]?=some (enc l[i.1]!):=λi=>by
  have:=i.2;rw[qC,lE (by omega),getElem!_pos l i.1 (by omega)];rfl
 have hmul:∀i:Fin (m+1),i.1*sz+sz<=(m+1)*sz:=λi=>by have:=e9 sz (Nat.succ_le_of_lt i.2);rwa[qE]at this
 generalize hcof:(λi:Fin (m+1)=>(List.range sz).map λj=>c.getD (i.1*sz+j) undef)=cellsOf;have cl:∀i,(cellsOf i).length=sz:=λi=>by rw[<-hcof];simp
 have cg:∀i j,j<sz->(cellsOf i)[j]?=some (c.getD (i.1*sz+j) undef):=λi j hj=>by rw[<-hcof];simp[hj]
 generalize hd:(Array.ofFn (n:=m+1) id)=d;have hds:d.size=m+1:=by rw[<-hd];simp
 have hdg:∀j (hj:j<m+1),d[j]! =⟨j,hj⟩:=λj hj=>by rw[getElem!_pos d j (by omega)];subst hd;simp
 have hflat:∀(dk:Array (Fin (m+1))),dk.size=m+1->∀i j,i<m+1->j<sz->(flatK cellsOf sz dk)[i*sz+j]! =c.getD ((dk[i]!).1*sz+j) undef:=λdk hdk i j hi hj=>by
  have h1:i*sz+j<dk.size*sz:=by have:=e9 sz (Nat.succ_le_of_lt hi);rw[qE]at this;rw[hdk];omega
  rw[get_flatK cellsOf sz dk _ h1];have h2:(i*sz+j)/sz=i:=by rw[Nat.mul_comm,Nat.mul_add_div hsz0,Nat.div_eq_of_lt hj,qK]
  have h3:(i*sz+j)%sz=j:=by rw[Nat.mul_comm,Nat.mul_add_mod,Nat.mod_eq_of_lt hj]
  rw[h2,h3,getElem!_pos _ j (by rw[cl];exact hj)];have:=cg (dk[i]!) j hj;rw[lE (by rw[cl];exact hj)]at this;simpa using this
 have hH:HoldsK cellsOf sz w p.blk 0 d:=by
  intro k hk;rw[size_flatK,hds]at hk;have hi:k/sz<m+1:=Nat.div_lt_of_lt_mul (by rw[Nat.mul_comm];exact hk);have hj:k%sz<sz:=Nat.mod_lt _ hsz0;have hk2:k/sz*sz+k%sz=k:=by rw[Nat.mul_comm];exact Nat.div_add_mod k sz
  have:=hflat d hds (k/sz) (k%sz) hi hj;rw[hdg _ hi,hk2]at this;rw[this,fx];have hkc:k<c.size:=by omega
  refine⟨?_,by simp[World.frozen?,hbl]⟩;simp only[World.cell?,hbl];simp only[Option.isSome_none,gr,if_false];rw[GK hkc];simp[Array.getD,hkc]
 have hrelE:∀(i:Fin (m+1)) cs,enc l[i.1]! =.agg cs->cs.length=sz/\(∀y,y∈cs->dq y=true)/\∀(j:Nat)(y:AV),cs[j]?=some y->VRel pl M y (c.getD (i.1*sz+j) undef):=by
  intro i cs hcs;have h1:=hm.elem _ (bC (helem i));rw[hcs]at h1;refine⟨h1.1,h1.2,λj y hj=>?_⟩;have:=hm.cell i.1 _ j y (helem i) (by rw[hcs];exact hj);rwa[fx]at this
 have hone:∀i,∀v∈cellsOf i,v.oneCell'=true:=by
  intro i v hvm;obtain⟨j,hj,e⟩:=GW hvm;rw[cl]at hj;have h1:=cg i j hj;rw[lE (by rw[cl];exact hj),e]at h1;obtain⟨cs,hcs⟩:=hag l[i.1]!;obtain⟨k1,k2,k3⟩:=hrelE i cs hcs;have:=k3 j cs[j] (lE (by omega));cases h1
  exact this.one (k2 _ (Eh _))
 have hmemL:∀i:Fin (m+1),l[i.1]!∈l:=λi=>by
  have:=i.2;rw[getElem!_pos l i.1 (by omega)];exact Eh _
 have hlays:CmpLays P g #[] cellsOf sz (λi j=>cmp l[i.1]! l[j.1]!) p.blk 0 d.size w:=by
  intro n os dk hdk x y;generalize hW:sortWorldK cellsOf sz w p.blk 0 n dk os=W;have hWo:∀b,b<w.heap.size->b≠p.blk->W.heap[b]?=w.heap[b]?:=λb h1 h2=>by rw[<-hW];exact kF h1 h2
  have hrW:cS (λ_=>none) M AHeap.none W:=rX (pl:=λ_=>none) (n:=0) (g:=AHeap.none.get) ⟨λ_ _ h=>by simp at h,λ_ _ _ h=>by simp at h,λ_ _ h=>by simp at h,λ_ _ _ _ h=>by simp at h,λb c' hM=>by
   obtain⟨t',fr,q⟩:=hr.imm b c' hM;refine⟨t',fr,?_⟩;rw[hWo b (hr.memLt hM) (λe=>by have:=hr.sep oid p hp;rw[<-e,hM]at this;cases this)];exact q,λ_ _ h=>by simp at h⟩
  have hrel:∀i:Fin (m+1),VRel (λ_=>none) M (enc l[i.1]!) (.agg (cellsOf i).toArray):=by
   intro i;obtain⟨cs,hcs⟩:=hag l[i.1]!;obtain⟨k1,k2,k3⟩:=hrelE i cs hcs;have ht:=htop l[i.1]!;rw[hcs]at ht ⊢;refine .agg (by simp[cl,k1]) k2 λj y hj=>?_
   have hj':j<sz:=by rw[<-k1];exact(fP.1 hj).1
   have e:(cellsOf i).toArray.getD j undef=c.getD (i.1*sz+j) undef:=by
    have:=cg i j hj';rw[iZ,ou,this];rfl
   rw[e];exact(k3 j y hj).none (ke.1 ht y (bC hj))
  have hc:=hcmp _ (hmemL x) _ (hmemL y) AHeap.none (λ_=>none) M W #[.agg (cellsOf x).toArray,.agg (cellsOf y).toArray] (hG.none hGT) hrW ⟨rfl,λj z hj=>by
   match j,hj with
   |0,hj=>cases hj;exact hrel x
   |1,hj=>cases hj;exact hrel y⟩
  rcases hc with⟨h1,h2⟩|⟨cv,w',v,h',h1,h2,h3⟩
  ·refine Calls.mono h2 λe w' ⟨cv,v,h',k1,k2,pl',M',k3,k4,k5,k6⟩=>?_
   obtain⟨k2,_⟩:=k2;subst k2;cases k3
   refine⟨k1,?_⟩;obtain⟨q,hq⟩:=regrown_of_below (w:=W) (w':=w') ⟨k5.os,k5.tape,k5.out,k5.size,λb hb=>k5.kept b hb λid p h=>by simp at h⟩;refine⟨w'.drawn-W.drawn,q.os,?_⟩;have hd1:w'.drawn=q.d:=by rw[hq];rfl
   have hd2:=k5.drawn;have:redrawn W q.d=W.drewN (w'.drawn-W.drawn):=by
    show({W with drawn:=q.d}:World)={W with drawn:=W.drawn+(w'.drawn-W.drawn)}
    congr 1;omega
   rw[<-this];exact hq
  ·rw[hg2]at h1;cases h1
 refine .inl ⟨hE _ _,?_⟩;have hcall:=hC m cellsOf (λi j=>cmp l[i.1]! l[j.1]!) p.blk 0 cap' d w cl hone ⟨λx=>hO.irrefl _,λx y z=>hO.trans _ _ _,λx y z=>hO.ntrans _ _ _⟩ hlays hH hlt (by omega);rw[show d.size=l.length by omega]at hcall;refine Calls.mono hcall λe w' ⟨he,d',n,os,hP,hS,hw⟩=>?_
 obtain⟨hp1,_,hp3⟩:=hP;have hd's:d'.size=m+1:=by omega
 have hperm:d'.toList.Perm d.toList:=by
  have e1:d'.extract 0 l.length=d':=by rw[show l.length=d'.size by omega];exact Array.extract_size
  have e2:d.extract 0 l.length=d:=by rw[show l.length=d.size by omega];exact Array.extract_size
  rwa[e1,e2]at hp3
 have hdl:d.toList.map (λi=>l[i.1]!)=l:=by
  apply List.ext_getElem?;intro i;by_cases hi:i<l.length
  ·rw[qC,Array.getElem?_toList,GK (by omega),lE hi];have:=hdg i (by omega);rw[getElem!_pos d i (by omega)]at this;rw[this];show some (l[i]!)=some l[i]
   rw[getElem!_pos l i hi]
  ·rw[List.getElem?_eq_none (by simp;omega),List.getElem?_eq_none (by omega)]
 have hl':(d'.toList.map (λi=>l[i.1]!)).length=l.length:=by simp;omega
 refine⟨.tuple #[],.tuple [],_,he,⟨d'.toList.map (λi=>l[i.1]!),⟨?_,?_⟩,rfl,rfl⟩,pl,M,rG,?_⟩
 ·have:=hperm.map (λi=>l[i.1]!);rwa[hdl]at this
 ·rw[LF];intro i j hi hj hij;have hi':i<d'.size:=by simpa using hi
  have hj':j<d'.size:=by simpa using hj
  have:=hS i j (b6 _) hij (by omega);rw[getElem!_pos d' i hi',getElem!_pos d' j hj']at this;simpa[FQ,ltOf]using this
 ·have hw1:w'.heap[p.blk]?=some (.cells (putCells id 0 (flatK cellsOf sz d') c) t (0,0)):=by rw[hw];exact ry hbl
  obtain⟨r1,r2⟩:=uq (w':=w') (xs':=(d'.toList.map (λi=>l[i.1]!)).map enc) hr hp hg hbl hw1 (by simp[putCells]) (by simp;omega) (λx hx=>by
    obtain⟨z,h1,rfl⟩:=iO.1 hx;obtain⟨i,_,rfl⟩:=iO.1 h1;exact hm.elem _ (bC (helem i))) (λi x j y q1 q2=>by
    rw[qC,qC,Array.getElem?_toList]at q1;obtain⟨z,e1,rfl⟩:=GJ.1 q1;obtain⟨k,e2,rfl⟩:=GJ.1 e1;have hi:i<d'.size:=(su.1 e2).1;obtain⟨cs,hcs⟩:=hag l[k.1]!;obtain⟨k1,k2,k3⟩:=hrelE k cs hcs;rw[hcs]at q2;have hj:j<sz:=by rw[<-k1];exact(fP.1 q2).1
    have hb1:i*sz+j<(m+1)*sz:=by have:=e9 sz (Nat.succ_le_of_lt (show i<m+1 by omega));rw[qE]at this;omega
    rw[ox (by rw[size_flatK,hd's];exact hb1) (by omega)];have:=hflat d' hd's i j (by omega) hj;have e3:d'[i]! =k:=by rw[getElem!_pos d' i hi];rw[GK hi]at e2;simpa using e2
    rw[e3]at this;show VRel pl M y (flatK cellsOf sz d')[i*sz+j]!
    rw[this];exact k3 j y q2) (by rw[hw];exact oa) (by rw[hw];exact Co) (λb hb hne=>by rw[hw];exact kF hb hne)
  exact⟨r1,r2,ar _⟩
end
theorem zV(a b:Int):aE (jF a b) 0=aE a b:=by
 unfold jF;cases h:aE a b with
 |true=>rfl
 |false=>cases h2:aE b a<;>rfl
noncomputable def mc(l:lac)(d:Int):Nat:=(l.takeWhile λs=>aE s.from_ d).length
theorem zK(l:lac)(d:Int):mc l d<=l.length:=by
 induction l with
 |nil=>simp[mc]
 |cons a r ih=>grind[mc,List.takeWhile_cons]
def s8(l:lac):Prop:=l.Pairwise λa b=>a.from_<=b.from_
theorem vB{d:Int}:∀{l:lac},s8 l->∀k,k<l.length->(aE (gD l k).from_ d=true↔k<mc l d)
 |[],_,k,h=>by simp_all
 | a::r,hs,k,h=>by
  obtain⟨h1,h2⟩:=iN.1 hs;unfold mc;rw[List.takeWhile_cons];cases q:aE a.from_ d with
  | true=>
   simp only[if_true,dw];cases k with
   |zero=>grind[gD]
   |succ k=>
    have:=vB (d:=d) h2 k (by simp_all);rw[show gD (a::r) (k+1)=gD r k from rfl,this];grind[mc]
  |false=>
   simp only[gr,if_false,hJ,qu,iff_false,Bool.not_eq_true];have hd:=aI q;grind[eP,jC]
noncomputable def Hs(l:lac)(d:Int):Bool:=aE (Int.ofNat (mc l d)) (Int.ofNat l.length)&&ae (jF (gD l (mc l d)).from_ d) 0
theorem QK{l:lac}(h:l.Pairwise λa b=>a.to<b.from_)(h2:∀s,s∈l->s.from_<s.to):s8 l:=by
 induction l with
 |nil=>exact .nil
 |cons a r ih=>
  obtain⟨h3,h4⟩:=iN.1 h;refine iN.2 ⟨λb hb=>?_,ih h4 λs hs=>h2 s (di _ hs)⟩;grind
structure NrmS(l:lac):Prop where
 gap:l.Pairwise λa b=>a.to<b.from_
 ok:∀s,s∈l->0<=s.from_/\s.from_<s.to/\s.to<=1048577
theorem NrmS.sort{l:lac}(h:NrmS l):s8 l:=QK h.gap λs hs=>(h.ok s hs).2.1
theorem Jw:∀{l:lac}{b:Int},l.Pairwise (λa b=>a.to<b.from_)->(∀s,s∈l->b<=s.from_/\s.from_<s.to/\s.to<=1048577)->b<=1048577->Int.ofNat l.length<=1048577-b
 |[],b,_,_,hb=>by simp_all
 |a::r,b,h,h2,hb=>by
  obtain⟨h3,h4⟩:=iN.1 h;have h5:=h2 a (dr ..);have:=Jw (l:=r) (b:=b+1) h4 (λs hs=>by grind) (by omega);grind
theorem NrmS.len{l:lac}(h:NrmS l):l.length<=1048577:=by
 have:=Jw (b:=0) h.gap h.ok (by omega);grind
noncomputable def gT(l:lac)(d:Int):Bool:=Hs l d||(aE 0 (Int.ofNat (mc l d))&&aE d (gD l (mc l d-1)).to)
theorem RF{l:lac}(h:NrmS l){d:Int}(hd:d<0\/1048576<d):gT l d=false:=by
 have hs:=h.sort;have hi:=vB (d:=d) hs;have hc:=zK l d;unfold gT Hs;rcases hd with hd|hd
 ·have h0:mc l d=0:=by
   rcases Nat.eq_zero_or_pos (mc l d)with e|e
   ·omega
   ·have h1:=(hi 0 (by omega)).2 e;have:=ap h1;grind[eP,cases NrmS]
  rw[h0];have e2:aE 0 (Int.ofNat 0)=false:=by rfl
  rw[e2,zy,xU];cases hl:aE (Int.ofNat 0) (Int.ofNat l.length)with
  |false=>rfl
  | true=>
   have hlt:=ap hl;simp only[aT]at hlt;have:=h.ok (gD l 0) (eP (by omega));have e3:ae (jF (gD l 0).from_ d) 0=false:=by
    unfold jF;rw[jC (by omega),mh (by omega)];rfl
   simp_all
 ·have h0:mc l d=l.length:=by
   rcases fg (mc l d) l.length with e|e
   all_goals grind[eP,mh,cases NrmS]
  rw[h0,jC (by omega),zy,Bool.false_or];cases hl:aE 0 (Int.ofNat l.length)with
  |false=>rfl
  |true=>
   have hlt:=ap hl;simp only[aT]at hlt;have:=h.ok (gD l (l.length-1)) (eP (by omega));rw[jC (by omega)];rfl
theorem E7(a b:Int):Dg a b=max a b:=by
 unfold Dg;cases h:aE a b with
 |true=>have:=ap h;grind
 |false=>have:=aI h;grind
theorem KY(a b:Int):O9 a b=min a b:=by
 unfold O9;cases h:aE b a with
 |true=>have:=ap h;grind
 |false=>have:=aI h;grind
noncomputable abbrev XS(s:PSpan):PSpan:=⟨Dg s.from_ 0,O9 s.to 1048577⟩
noncomputable abbrev ZT(s:PSpan):Bool:=aE (Dg s.from_ 0) (O9 s.to 1048577)
noncomputable def jG:lac->lac
 |[]=>[]
 |s::r=>match ZT s with|true=>XS s::jG r|false=>jG r
theorem vD{s:PSpan}{r:lac}(h:ZT s=true):jG (s::r)=XS s::jG r:=by grind[jG]
theorem vE{s:PSpan}{r:lac}(h:ZT s=false):jG (s::r)=jG r:=by grind[jG]
theorem EV:∀(l:lac),(jG l).length<=l.length
 |[]=>by simp[jG]
 |s::r=>by
  have:=EV r;cases h:ZT s with
  |true=>grind[vD]
  |false=>grind[vE]
theorem BB:∀{l:lac}{s:PSpan},s∈jG l->0<=s.from_/\s.from_<s.to/\s.to<=1048577
 | a::r,s,hs=>by
  cases h:ZT a with
  |true=>
   rw[vD h]at hs;rcases dO.1 hs with e|e
   ·subst e;have h2:=ap h;grind[E7,KY]
   ·exact BB e
  |false=>rw[vE h]at hs;exact BB hs
def memB(l:lac)(d:Int):Bool:=l.any λs=>decide (s.from_<=d/\d<s.to)
def Pw(d:Int):Bool:=decide (0<=d/\d<1048577)
theorem nb(d:Int):memB [] d=false:=rfl
theorem eN(a:PSpan)(l:lac)(d:Int):memB (a::l) d=(decide (a.from_<=d/\d<a.to)||memB l d):=rfl
theorem nc(l r:lac)(d:Int):memB (l++r) d=(memB l d||memB r d):=by simp[memB]
theorem gv{l:lac}{d:Int}:memB l d=true↔∃s,s∈l/\s.from_<=d/\d<s.to:=by simp[memB]
theorem PZ{l r:lac}(h:l.Perm r)(d:Int):memB l d=memB r d:=by
 rw[zd,gv,gv];grind
theorem EK:∀(l:lac)(d:Int),memB (jG l) d=(Pw d&&memB l d)
 |[],d=>by simp[jG,memB]
 | a::r,d=>by
  have ih:=EK r d;have e:∀b:Bool,(b=decide (0<=d/\d<1048577/\a.from_<=d/\d<a.to))->(b||(Pw d&&memB r d))=(Pw d&&memB (a::r) d):=λb hb=>by grind[eN,Pw]
  cases h:ZT a with
  |true=>
   rw[vD h,eN,ih];refine e _ ?_;simp only[E7,KY];grind
  |false=>
   rw[vE h,ih];have h2:=aI h;simp only[E7,KY]at h2;grind
theorem NrmS.tail{a:PSpan}{r:lac}(h:NrmS (a::r)):NrmS r:=⟨(iN.1 h.gap).2,λs hs=>h.ok s (di _ hs)⟩
theorem NrmS.low{a x:PSpan}{r:lac}(h:NrmS (a::r))(hx:x∈r):a.to<x.from_:=(iN.1 h.gap).1 x hx
theorem NrmS.head{a:PSpan}{r:lac}(h:NrmS (a::r)):0<=a.from_/\a.from_<a.to/\a.to<=1048577:=h.ok a (dr ..)
theorem yR:NrmS []:=⟨.nil,λs h=>by grind⟩
theorem sQ{a:PSpan}{r:lac}(h:NrmS (a::r)):memB (a::r) a.from_=true:=by grind[eN,cases NrmS]
theorem HU{a:PSpan}{r:lac}(h:NrmS (a::r)){d:Int}(hd:memB (a::r) d=true):a.from_<=d:=by
 obtain⟨s,h1,h2,h3⟩:=gv.1 hd;rcases dO.1 h1 with e|e
 ·simp_all
 ·have:=h.low e;grind[cases NrmS]
theorem Ro{a:PSpan}{r:lac}(h:NrmS (a::r)):memB (a::r) a.to=false:=by
 cases q:memB (a::r) a.to with
 |false=>rfl
 |true=>
  obtain⟨s,h1,h2,h3⟩:=gv.1 q;rcases dO.1 h1 with e|e
  ·simp_all
  ·have:=h.low e;omega
theorem HY{a:PSpan}{r:lac}(h:NrmS (a::r))(d:Int):memB r d=(decide (a.to<=d)&&memB (a::r) d):=by
 rw[eN];by_cases h1:a.to<=d
 ·grind
 ·have:memB r d=false:=by
   cases q:memB r d with
   |false=>rfl
   |true=>
    obtain⟨s,h2,h3,h4⟩:=gv.1 q;have:=h.low h2;omega
  grind
theorem Al:∀{r s:lac},NrmS r->NrmS s->(∀d,memB r d=memB s d)->r=s
 |[],[],_,_,_=>rfl
 |[],b::s,_,hs,h=>by grind[sQ,nb]
 |a::r,[],hr,_,h=>by grind[sQ,nb]
 | a::r,b::s,hr,hs,h=>by
  have h1:b.from_<=a.from_:=HU hs (by grind[sQ]);have h2:a.from_<=b.from_:=HU hr (by grind[sQ]);have ha:=hr.head;have hb:=hs.head;have h3:¬a.to<b.to:=λq=>by grind[eN,Ro]
  have h4:¬b.to<a.to:=λq=>by grind[eN,Ro]
  have e:a=b:=by
   obtain⟨a1,a2⟩:=a;obtain⟨b1,b2⟩:=b;grind
  subst e;rw[Al hr.tail hs.tail λd=>by rw[HY hr,HY hs,h]]
def xW(f:Int->Bool)(d:Int)(l:lac):lac:=match f d with
 |false=>l
 |true=>match l with
  |[]=>[⟨d,d+1⟩]
  |s::r=>if s.from_=d+1 then⟨d,s.to⟩::r else⟨d,d+1⟩::s::r
def xm(f:Int->Bool):Nat->lac
 |0=>[]
 |k+1=>xW f (1048577-Int.ofNat (k+1)) (xm f k)
theorem P9{f:Int->Bool}{d:Int}{l:lac}(h0:0<=d)(h1:d+1<=1048577)(hl:NrmS l)(hf:∀s,s∈l->d+1<=s.from_):
  NrmS (xW f d l)/\(∀s,s∈xW f d l->d<=s.from_)/\∀e,memB (xW f d l) e=((decide (e=d)&&f e)||memB l e):=by
 unfold xW;cases hfd:f d with
 |false=>grind
 | true=>
  match l,hl,hf with
  |[],_,_=>
   refine⟨⟨by simp,λs hs=>by grind⟩,λs hs=>by simp_all,λe=>?_⟩;simp only[eN,nb,xU];grind
  | s::r,hl,hf=>
   have hs:=hl.head;have hs2:=hf s (dr ..);simp only[];by_cases q:s.from_=d+1
   ·rw[if_pos q];refine⟨⟨iN.2 ⟨λx hx=>hl.low hx,hl.tail.gap⟩,λx hx=>?_⟩,λx hx=>?_,λe=>?_⟩
    ·grind[cases NrmS]
    ·grind
    ·simp only[eN];grind
   ·rw[if_neg q];refine⟨⟨iN.2 ⟨λx hx=>?_,hl.gap⟩,λx hx=>?_⟩,λx hx=>?_,λe=>?_⟩
    ·have:=hf x hx;rcases dO.1 hx with e|e
     ·grind
     ·have:=hl.low e;grind
    ·rcases dO.1 hx with e|e
     ·grind
     ·exact hl.ok x e
    ·grind
    ·rw[eN];grind
theorem GO(f:Int->Bool):∀k,k<=1048577->NrmS (xm f k)/\(∀s,s∈xm f k->1048577-Int.ofNat k<=s.from_)/\∀e,memB (xm f k) e=(decide (1048577-Int.ofNat k<=e/\e<1048577)&&f e)
 |0,_=>by
  refine⟨yR,λs h=>(by cases h),λe=>?_⟩;have:decide (1048577-Int.ofNat 0<=e/\e<1048577)=false:=by simp_all
  rw[this];rfl
 |k+1,hk=>by
  obtain⟨h1,h2,h3⟩:=GO f k (by omega);simp only[aT]at *;have:=P9 (f:=f) (d:=1048577-((k+1:Nat):Int)) (l:=xm f k) (by omega) (by omega) h1 (λs hs=>by grind);have h5:xm f (k+1)=xW f (1048577-((k+1:Nat):Int)) (xm f k):=by grind[xm]
  grind
theorem Rt(f:Int->Bool):∃l:lac,NrmS l/\∀d,memB l d=(Pw d&&f d):=by
 obtain⟨h1,_,h3⟩:=GO f 1048577 (ar _);exact⟨_,h1,λd=>by simp_all[Pw]⟩
noncomputable def nf(f:Int->Bool):lac:=Classical.choose (Rt f)
theorem tu(f:Int->Bool):NrmS (nf f):=(Classical.choose_spec (Rt f)).1
theorem An(f:Int->Bool)(d:Int):memB (nf f) d=(Pw d&&f d):=(Classical.choose_spec (Rt f)).2 d
theorem Ru{f:Int->Bool}{r:lac}(h:NrmS r)(hm:∀d,memB r d=(Pw d&&f d)):r=nf f:=Al h (tu f) λd=>by grind[An]
theorem RA{f g:Int->Bool}(h:∀d,Pw d=true->f d=g d):nf f=nf g:=Ru (tu f) λd=>by
 rw[An];grind
theorem NX{l:lac}(h:NrmS l):l=nf (memB l):=Ru h λd=>by
 cases q:memB l d with
 |false=>simp_all
 |true=>
  obtain⟨s,h1,h2,h3⟩:=gv.1 q;have:=h.ok s h1;have:Pw d=true:=by unfold Pw;grind
  simp_all
theorem yG{α:Type}[Inhabited α]{l:List α}{n:Nat}(h:n<l.length):l.take (n+1)=l.take n++[gD l n]:=by grind[List.take_add_one,gD]
theorem Ff{α:Type}[Inhabited α]{l:List α}{n:Nat}(h:n<l.length):l.drop n=gD l n::l.drop (n+1):=by grind[List.drop_eq_getElem_cons,gD]
theorem ur{α:Type}{l:List α}{n m:Nat}{x:α}(h:n<=m):(l.set m x).take n=l.take n:=by
 apply List.ext_getElem?;grind
theorem KG{α:Type}[Inhabited α]{l:List α}{i k:Nat}{x:α}(h:i<l.length):gD (l.set i x) k=if k=i then x else gD l k:=by
 unfold gD List.getD;grind
theorem s8.at{l:lac}(h:s8 l){i k:Nat}(hik:i<=k)(hk:k<l.length):(gD l i).from_<=(gD l k).from_:=by
 rcases fg i k with q|q
 ·have:=LF.1 h i k (by omega) hk q;grind[gD]
 grind
structure MergeI(l cur:lac)(n i:Nat):Prop where
 len:cur.length=l.length
 le:n<=i
 il:i<=l.length
 pos:0<i->0<n
 rest:∀k,i<=k->k<l.length->gD cur k=gD l k
 gap:∀j k,j<k->k<n->(gD cur j).to<(gD cur k).from_
 ok:∀k,k<n->0<=(gD cur k).from_/\(gD cur k).from_<(gD cur k).to/\(gD cur k).to<=1048577
 last:0<n->∀k,i<=k->k<l.length->(gD cur (n-1)).from_<=(gD l k).from_
 mem:∀d,(memB (cur.take n) d||memB (l.drop i) d)=memB l d
theorem MergeI.start(l:lac):MergeI l l 0 0:=⟨rfl,ar _,b6 _,λh=>absurd h (xz _),λ_ _ _=>rfl,λ_ _ _ h=>absurd h (qu _),λ_ h=>absurd h (qu _),λh=>absurd h (xz _),λd=>by simp[memB]⟩
theorem MergeI.copy{l cur:lac}{n i:Nat}(h:MergeI l cur n i)(hi:i<l.length)(hs:s8 l)(hok:∀k,k<l.length->0<=(gD l k).from_/\(gD l k).from_<(gD l k).to/\(gD l k).to<=1048577)
  (hn:n=0\/(gD cur (n-1)).to<(gD cur i).from_):MergeI l (cur.set n (gD cur i)) (n+1) (i+1):=by
 rw[h.rest i (ar _) hi]at hn ⊢;have hl:=h.le;have hcl:=h.len;have hg:∀k,gD (cur.set n (gD l i)) k=if k=n then gD l i else gD cur k:=λk=>KG (by omega)
 refine⟨by simp_all,by omega,by omega,λ_=>by omega,λk h1 h2=>?_,λj k h1 h2=>?_,λk h1=>?_,λ_ k h1 h2=>?_,λd=>?_⟩
 ·grind[cases MergeI]
 ·rw[hg,hg,if_neg (by omega)];by_cases e:k=n
  ·rw[if_pos e];rcases hn with hn|hn
   ·omega
   ·by_cases e2:j=n-1
    ·simp_all
    ·have h3:=h.gap j (n-1) (by omega) (by omega);grind[cases MergeI]
  ·grind[cases MergeI]
 ·rw[hg];by_cases e:k=n
  ·simp_all
  ·grind[cases MergeI]
 ·rw[hg,if_pos (by omega)];exact hs.at (by omega) h2
 ·rw[yG (by grind),hg,if_pos rfl,ur (ar _),nc,<-h.mem d,Ff hi,eN,eN,nb];grind
theorem MergeI.join{l cur:lac}{n i:Nat}(h:MergeI l cur n i)(hi:i<l.length)(hs:s8 l)(hok:∀k,k<l.length->0<=(gD l k).from_/\(gD l k).from_<(gD l k).to/\(gD l k).to<=1048577)
  (hn:0<n)(hle:(gD cur i).from_<=(gD cur (n-1)).to)(x:Int)(hx:x=Dg (gD cur (n-1)).to (gD cur i).to):MergeI l (cur.set (n-1) ⟨(gD cur (n-1)).from_,x⟩) n (i+1):=by
 rw[h.rest i (ar _) hi]at hle;rw[h.rest i (ar _) hi,E7]at hx;have hl:=h.le;have hcl:=h.len;have hg:∀k,gD (cur.set (n-1) ⟨(gD cur (n-1)).from_,x⟩) k=if k=n-1 then⟨(gD cur (n-1)).from_,x⟩else gD cur k:=λk=>KG (by omega)
 have h4:=h.ok (n-1) (by omega);have h5:=hok i hi;have h6:=h.last hn i (ar _) hi;refine⟨by simp_all,by omega,by omega,λ_=>hn,λk h1 h2=>?_,λj k h1 h2=>?_,λk h1=>?_,λ_ k h1 h2=>?_,λd=>?_⟩
 ·grind[cases MergeI]
 ·rw[hg,hg,if_neg (by omega)];by_cases e:k=n-1
  ·grind[cases MergeI]
  ·grind[cases MergeI]
 ·rw[hg];by_cases e:k=n-1
  ·grind
  ·grind[cases MergeI]
 ·grind[cases MergeI]
 ·obtain⟨m,rfl⟩:∃m,n=m+1:=⟨n-1,by omega⟩
  simp only[Nat.add_sub_cancel]at *;rw[yG (by grind),hg,if_pos rfl,ur (ar _),nc,<-h.mem d,Ff hi,eN (gD l i),yG (by omega),nc,eN,eN,nb,xU,xU];grind
theorem MergeI.nrm{l cur:lac}{n i:Nat}(h:MergeI l cur n i):NrmS (cur.take n):=by
 have hl:=h.le;have hcl:=h.len;have hil:=h.il;have hlen:(cur.take n).length=n:=by grind
 have hg:∀k (hk:k<(cur.take n).length),(cur.take n)[k]=gD cur k:=λk hk=>by rw[List.getElem_take];unfold gD List.getD;grind
 refine⟨?_,λs hs=>?_⟩;all_goals grind[List.pairwise_iff_getElem,List.getElem_of_mem,cases MergeI]
theorem MergeI.done{l cur:lac}{n i:Nat}(h:MergeI l cur n i)(hi:l.length<=i)(d:Int):memB (cur.take n) d=memB l d:=by rw[<-h.mem d,CE hi,nb,xU]
theorem To{l l':lac}(hp:l'.Perm (jG l)):∀k,k<l'.length->0<=(gD l' k).from_/\(gD l' k).from_<(gD l' k).to/\(gD l' k).to<=1048577:=λk hk=>BB (hp.mem_iff.1 (eP hk))
noncomputable def ej(l:lac):lac:=nf (memB l)
theorem Hx{l r:lac}(h:NrmS r)(hm:∀d,memB r d=memB (jG l) d):r=ej l:=Ru h λd=>by grind[EK]
theorem O6{l:lac}(h:jG l=[]):[]=ej l:=Hx yR λd=>by grind
theorem uK{zs:lak}(hs:zs.Pairwise λa b=>a<=b):(bW zs).Pairwise (λa b=>a<b)/\∀z,z∈bW zs↔z∈zs:=by
 generalize hd:zs.toArray=d;have hsz:d.size=zs.length:=by grind
 have hx:∀j (hj:j<zs.length),d[j]! =zs[j]:=λj hj=>by grind
 have mono:∀i j,i<=j->j<zs.length->d[i]!<=d[j]!:=λi j hij hj=>by
  rcases fg i j with q|q
  ·rw[hx i (by omega),hx j hj];exact LF.1 hs i j (by omega) hj q
  grind
 have key:∀m,m<=zs.length->(Lib.compactUpTo d m).Pairwise (λa b=>a<b)/\(∀z,z∈Lib.compactUpTo d m->∃j,j<m/\z=d[j]!)/\∀j,j<m->d[j]!∈Lib.compactUpTo d m:=by
  intro m;induction m with
  |zero=>simp_all[Lib.compactUpTo]
  | succ m ih=>
   intro hm;obtain⟨h1,h2,h3⟩:=ih (by omega);rw[Lib.compactUpTo_succ];cases hk:Lib.keeps d m with
   | true=>
    simp only[if_true];have hk':m=0\/d[m]!≠d[m-1]!:=by grind[Lib.keeps]
    refine⟨List.pairwise_append.2 ⟨h1,by simp,λa ha b hb=>?_⟩,λz hz=>?_,λj hj=>?_⟩
    ·obtain⟨j,hj,rfl⟩:=h2 a ha;have hb:b=d[m]!:=by simp_all
     subst hb;have e1:=mono j (m-1) (by omega) (by omega);have e2:=mono (m-1) m (by omega) (by omega);omega
    all_goals grind
   |false=>
    simp only[gr,if_false,eu];have hk':¬(m=0\/d[m]!≠d[m-1]!):=by grind[Lib.keeps]
    grind
 obtain⟨h1,h2,h3⟩:=key zs.length (ar _);have e:bW zs=Lib.compactUpTo d zs.length:=by grind[bW,Lib.compact]
 rw[e];refine⟨h1,λz=>⟨λhz=>?_,λhz=>?_⟩⟩
 ·grind
 ·obtain⟨j,hj,rfl⟩:=GW hz;simp_all
theorem NrmS.at{l:lac}(h:NrmS l){j k:Nat}(hjk:j<k)(hk:k<l.length):(gD l j).to<(gD l k).from_:=by
 have:=LF.1 h.gap j k (by omega) hk hjk;grind[gD]
theorem NrmS.okAt{l:lac}(h:NrmS l){k:Nat}(hk:k<l.length):0<=(gD l k).from_/\(gD l k).from_<(gD l k).to/\(gD l k).to<=1048577:=h.ok _ (eP hk)
theorem Ve{l:lac}{d:Int}:memB l d=true↔∃k,k<l.length/\(gD l k).from_<=d/\d<(gD l k).to:=by
 rw[gv];constructor
 ·rintro⟨s,h1,h2⟩
  obtain⟨k,hk,e⟩:=GW h1;have:gD l k=s:=by grind[gD]
  grind
 grind[eP]
theorem EW {a b:Int}:ae (jF a b) 0=true↔a=b:=by
 unfold jF;cases h:aE a b with
 | true => have:=ap h;constructor
           ·intro h;cases h
           omega
 |false=>
  have:=aI h;cases h2:aE b a with
  | true => have:=ap h2;constructor
            ·intro h;cases h
            omega
  |false=>have:=aI h2;exact⟨λ_=>by omega,λ_=>rfl⟩
theorem y6{l:lac}(h:NrmS l)(d:Int):gT l d=memB l d:=by
 have hi:=vB (d:=d) h.sort;have hc:=zK l d;rw[zd,Ve];unfold gT Hs;simp only[oh,ba];constructor
 ·rintro(⟨h1,h2⟩|⟨h1,h2⟩)
  ·have h1:=ap h1;simp only[aT]at h1;have h2:=EW.1 h2;have:=h.okAt (k:=mc l d) (by omega);grind
  ·have h1:=ap h1;have h2:=ap h2;simp only[aT]at h1;have h3:=ap ((hi (mc l d-1) (by omega)).2 (by omega));grind
 ·rintro⟨k,hk,h1,h2⟩
  by_cases e:(gD l k).from_=d
  ·left;have e1:¬k<mc l d:=λq=>by have:=ap ((hi k hk).2 q);omega
   have e2:¬mc l d<k:=λq=>by
    have h3:=h.at q hk;have h4:=h.okAt (k:=mc l d) (by omega);grind[mh]
   have e3:mc l d=k:=by omega
   rw[e3];exact⟨mh (by simp_all),EW.2 e⟩
  ·right;have e1:k<mc l d:=(hi k hk).1 (mh (by omega));have e2:¬k+1<mc l d:=λq=>by
    have h3:=h.at (j:=k) (k:=k+1) (by omega) (by omega);have:=ap ((hi (k+1) (by omega)).2 q);omega
   grind[mh]
def pO(l:lac):lak:=l.flatMap λs=>[s.from_,s.to]
theorem D0(s:PSpan)(r:lac):pO (s::r)=[s.from_,s.to]++pO r:=by simp[pO]
theorem kH:∀(l:lac),(pO l).length=2*l.length
 |[]=>rfl
 |s::r=>by rw[D0];simp[kH r];omega
theorem Iy{l:lac}{s:PSpan}(h:s∈l):s.from_∈pO l/\s.to∈pO l:=by
 unfold pO;grind
def km(g:Int->Bool):lak->lac
 |[]=>[]
 | a::r=>match r with
  |[]=>[]
  |b::_=>match g a with
   |true=>⟨a,b⟩::km g r
   |false=>km g r
theorem GI(g:Int->Bool)(a b:Int)(r:lak):km g (a::b::r)=match g a with|true=>⟨a,b⟩::km g (b::r)|false=>km g (b::r):=by rw[km]
def sR:Int->lak->Int
 |a,[]=>a
 |_,b::r=>sR b r
theorem AO:∀{r:lak}{a:Int},(a::r).Pairwise (λa b=>a<b)->a<=sR a r/\∀z,z∈r->z<=sR a r
 |[],a,_=>⟨so _,λz h=>by grind⟩
 |b::r,a,h=>by
  obtain⟨h1,h2⟩:=iN.1 h;have h3:=h1 b (dr ..);obtain⟨k1,k2⟩:=AO h2;grind[sR]
theorem GL{g:Int->Bool}{C:lak}(hg:∀x y,(∀z,z∈C->z<=x\/y<=z)->∀d,x<=d->d<y->g d=g x):
  ∀(r:lak)(a:Int),(a::r).Pairwise (λa b=>a<b)->(∀z,z∈C->z<=a\/z∈r)->∀d,memB (km g (a::r)) d=(decide (a<=d/\d<sR a r)&&g d)
 |[],a,_,_,d=>by
  have:decide (a<=d/\d<sR a [])=false:=by grind[sR]
  rw[this];rfl
 | b::r,a,hp,hC,d=>by
  obtain⟨h1,h2⟩:=iN.1 hp;have hab:=h1 b (dr ..);obtain⟨hb2,h3⟩:=iN.1 h2;have hl:=(AO h2).1;have ih:=GL hg r b h2 (λz hz=>by grind) d;have hc:∀d,a<=d->d<b->g d=g a:=hg a b λz hz=>by grind
  have e0:memB (km g (a::b::r)) d=((g a&&decide (a<=d/\d<b))||memB (km g (b::r)) d):=by
   rw[GI];cases g a with
   |true=>rw[eN,xY]
   |false=>simp_all
  rw[e0,ih,show sR a (b::r)=sR b r from rfl];grind
def iM(A:lac):lak:=bW (cT (pO A))
theorem NT(A:lac):(iM A).Pairwise (λa b=>a<b)/\∀z,z∈iM A↔z∈pO A:=by
 obtain⟨h1,h2⟩:=uK (pb (pO A));exact⟨h1,λz=>(h2 z).trans (jR (pO A)).mem_iff⟩
theorem At{A l:lac}(hl:∀s,s∈l->s∈A){x y:Int}(hz:∀z,z∈iM A->z<=x\/y<=z){d:Int}(h1:x<=d)(h2:d<y):memB l d=memB l x:=by
 have key:∀s,s∈l->((s.from_<=d/\d<s.to)↔(s.from_<=x/\x<s.to)):=λs hs=>by
  obtain⟨k1,k2⟩:=Iy (hl s hs);grind[NT]
 rw[zd,gv,gv];grind
theorem On{op:Bool->Bool->Bool}(h0:op false false=false)(A B:lac)(d:Int):memB (km (λd=>op (memB A d) (memB B d)) (iM (A++B))) d=op (memB A d) (memB B d):=by
 obtain⟨h1,h2⟩:=NT (A++B);have out:∀(z1 z2:Int),(∀z,z∈iM (A++B)->z1<=z/\z<=z2)->¬(z1<=d/\d<z2)->op (memB A d) (memB B d)=false:=λz1 z2 hz hd=>by
  have no:∀l:lac,(∀s,s∈l->s∈A++B)->memB l d=false:=λl hl=>by
   cases q:memB l d with
   |false=>rfl
   |true=>
    obtain⟨s,k1,k2,k3⟩:=gv.1 q;obtain⟨k4,k5⟩:=Iy (hl s k1);grind
  simp_all
 cases hC:iM (A++B)with
 |nil=>
  rw[km,nb];exact(out (d+1) d (λz hz=>by grind) (by omega)).symm
 | cons a r=>
  rw[hC]at h1;have hl:=AO h1;have hp:=(iN.1 h1).1;rw[GL (C:=iM (A++B)) (λx y hz d h3 h4=>by
   show op (memB A d) (memB B d)=op (memB A x) (memB B x)
   rw[At (A:=A++B) (λs hs=>ux _ hs) hz h3 h4,At (A:=A++B) (λs hs=>qJ _ hs) hz h3 h4]) r a h1 (λz hz=>by
   grind) d]
  by_cases q:a<=d/\d<sR a r;all_goals grind
theorem Br(A:lac):(iM A).length<=2*A.length:=by
 have:=yJ (cT (pO A));have h2:=(jR (pO A)).length_eq;grind[kH,iM]
theorem DX{g:Int->Bool}{C:lak}{x:Nat}(h1:1<=x)(h2:x<C.length):km g (C.drop (x-1))=match g (gD C (x-1))with|true=>⟨gD C (x-1),gD C x⟩::km g (C.drop (x+1-1))|false=>km g (C.drop (x+1-1)):=by grind[Ff,GI]
theorem ll{g:Int->Bool}{C:lak}{x:Nat}(h1:1<=x)(h2:C.length<=x):km g (C.drop (x-1))=[]:=by
 have:(C.drop (x-1)).length<=1:=by simp_all
 match C.drop (x-1),this with
 |[],_=>rfl
 |[_],_=>rfl
 |_::_::_,h=>simp_all
noncomputable def s7(op:Bool->Bool->Bool)(a b:lac):lac:=nf λd=>op (memB a d) (memB b d)
theorem lx(l:lac):NrmS (ej l):=tu _
theorem Dd(l:lac)(d:Int):memB (ej l) d=(Pw d&&memB l d):=An _ d
theorem PS{op:Bool->Bool->Bool}(h0:op false false=false){a b A B:lac}(hA:ej a=A)(hB:ej b=B):ej (km (λd=>op (gT A d) (gT B d)) (iM (A++B)))=s7 op a b:=by
 have nA:NrmS A:=hA▸lx a;have nB:NrmS B:=hB▸lx b;have e:(λd=>op (gT A d) (gT B d))=λd=>op (memB A d) (memB B d):=funext λd=>by grind[y6]
 rw[e];unfold ej s7;refine RA λd hd=>?_
 rw[On h0,<-hA,<-hB,Dd,Dd,hd,xY,xY]
section
variable{H:Type}{enc:TypeId×Value->H}{P:Program}{w:World}{base:Nat}{spare:Nat->Bool}{held:Bool}
inductive VL(M:dN):laa->lao->Prop
 |nil:VL M [] []
 |cons {x:AV} {v:Value} {xs:laa} {vs:lao} (h:VRel (λ_=>none) M x v) (t:VL M xs vs):VL M (x::xs) (v::vs)
theorem VL.append{M:dN}{xs ys:laa}{a b:lao}(h:VL M xs a)(k:VL M ys b):VL M (xs++ys) (a++b):=by
 induction h with
 |nil=>grind
 |cons h _ ih=>exact .cons h ih
theorem VL.at_{M:dN}{xs:laa}{a:lao}(h:VL M xs a):∀(j:Nat)(y:AV),xs[j]?=some y->∃v,a[j]?=some v/\VRel (λ_=>none) M y v:=by
 induction h with
 |nil=>simp_all
 |cons h _ ih=>grind
theorem VL.one{M:dN}{x:AV}{cs:lao}(h:VL M [x] cs):∃v,cs=[v]/\VRel (λ_=>none) M x v:=by
 cases h with
 |cons h t=>cases t;simp_all
def Wt(P:Program)(t:TypeId)(d:DataW H):Prop:=∀m,m∈d.weights P t->m<=reachBytes
theorem qG{e:TypeId}{d:DataW H}{m:Nat}(hm:m∈d.weights P e):∀{l:List (DataW H)},d∈l->m∈DataW.weightsAll P e l
 |[],h=>by grind
 |a::r,h=>by
  unfold DataW.weightsAll;rcases dO.1 h with rfl|h
  ·simp_all
  ·exact qJ _ (qG hm h)
theorem mz{t:TypeId}{d:DataW H}{m:Nat}(hm:m∈d.weights P t):∀{ts:List TypeId}{l:List (DataW H)}(i:Nat),ts[i]?=some t->l[i]?=some d->m∈DataW.weightsEach P ts l
 |[],_,i,h,_=>by simp_all
 |_::_,[],i,_,h=>by simp_all
 |u::ts,a::r,i,h1,h2=>by
  unfold DataW.weightsEach;cases i with
  |zero=>simp_all
  |succ i=>exact qJ _ (mz hm i (by simp_all) (by simp_all))
def Ft(P:Program):lbc->Nat->Nat->Bool
 |[],off,n=>Nat.beq off n
 |f::r,off,n=>Nat.beq f.offset off&&Ft P r (off+P.cellsOf f.type) n
def VF(M:dN)(P:Program)(cs:lao):lbc->List laa->Prop
 |[],[]=>True
 |f::fs,xs::xss=>VL M xs ((cs.drop f.offset).take (P.cellsOf f.type))/\VF M P cs fs xss
 |_,_=>False
theorem VF.vl{M:dN}{cs:lao}:∀{fs:lbc}{xss:List laa}{off:Nat},Ft P fs off cs.length=true->VF M P cs fs xss->VL M xss.flatten (cs.drop off)
 |[],[],off,h,_=>by
  have:=qW h;rw[this,List.drop_length];exact .nil
 |[],_::_,_,_,h=>h.elim
 |_::_,[],_,_,h=>h.elim
 |f::fs,xs::xss,off,h,k=>by
  unfold Ft at h;rw[ba]at h;have ho:=qW h.1;have h1:=k.1;rw[ho]at h1;have h2:=VF.vl h.2 k.2;have e:cs.drop off=(cs.drop off).take (P.cellsOf f.type)++cs.drop (off+P.cellsOf f.type):=by grind[List.drop_drop,List.take_append_drop]
  rw[List.flatten_cons,e];exact h1.append h2
def TF(enc:TypeId×Value->H)(P:Program)(w:World)(base:Nat)(spare:Nat->Bool)(held:Bool)(n:Nat)(cs:lao):lbc->Prop
 |[]=>True
 |f::fs=>(∃d p,DataW.trod enc P w base spare held n f.type ((cs.drop f.offset).take (P.cellsOf f.type))=some (d,p)/\Wt P f.type d)/\TF enc P w base spare held n cs fs
theorem X3{n:Nat}{cs:lao}:∀(fs:lbc),(∀(i:Nat)(f:Field),fs[i]?=some f->∃d p,DataW.trod enc P w base spare held n f.type ((cs.drop f.offset).take (P.cellsOf f.type))=some (d,p)/\Wt P f.type d)->TF enc P w base spare held n cs fs
 |[],_=>trivial
 |f::fs,h=>⟨h 0 f rfl,X3 fs λi g hg=>h (i+1) g (by simp_all)⟩
theorem jY{t:TypeId}{fs:Array Field}{fuel:Nat}{cs:lao}{d:DataW H}{p:laz}(hu:P.underlying t=some (.struct fs))(hc:Ft P fs.toList 0 (P.cellsOf t)=true)
  (h:DataW.trod enc P w base spare held fuel t cs=some (d,p))(hw:Wt P t d):
  ∃n,fuel=n+1/\TF enc P w base spare held n cs fs.toList/\∀xss,VF (cF w) P cs fs.toList xss->VL (cF w) xss.flatten cs:=by
 obtain⟨xs,n,rfl,h1,h2,h3,h4⟩:=DataW.trod_struct hu h;simp only[sr]at h1;obtain⟨rfl,_⟩:=h1;refine⟨n,rfl,X3 _ λi f hf=>?_,λxss hx=>?_⟩
 ·have hf':fs[i]?=some f:=by simp_all
  have hi:i<xs.length:=by grind
  have e:=h4 i f hf';rw[lE hi]at e;refine⟨xs[i].1,xs[i].2,e,λm hm=>hw m ?_⟩;unfold DataW.weights;rw[hu];exact mz hm i (by simp_all) (by grind)
 ·have:=VF.vl (off:=0) (by simp_all) hx;simp_all
theorem gI{t:TypeId}{fuel:Nat}{cs:lao}{d:DataW H}{p:laz}(hu:P.underlying t=some (.int .i64))(h:DataW.trod enc P w base spare held fuel t cs=some (d,p)):∃x,VL (cF w) [.int .i64 x] cs:=by
 obtain⟨x,rfl,_⟩:=DataW.trod_int hu h;exact⟨x,.cons (.int _ _) .nil⟩
theorem oY{t:TypeId}{fuel:Nat}{cs:lao}{d:DataW H}{p:laz}(hu:P.underlying t=some .string)(h:DataW.trod enc P w base spare held fuel t cs=some (d,p)):∃s,VL (cF w) [.str s] cs:=by
 obtain⟨⟨⟨s⟩⟩,rfl,_⟩:=DataW.trod_string hu h;exact⟨s,.cons (.str _) .nil⟩
theorem Nz{α:Type}{Q:Nat->α->Prop}:∀(n:Nat),(∀i,i<n->∃x,Q i x)->∃l:List α,l.length=n/\∀i x,l[i]?=some x->Q i x
 |0,_=>⟨[],rfl,λi x h=>by simp_all⟩
 |n+1,h=>by
  obtain⟨l,h1,h2⟩:=Nz n λi hi=>h i (by omega)
  obtain⟨y,hy⟩:=h n (by omega);refine⟨l++[y],by simp_all,λi x hx=>?_⟩;grind
theorem abP{x:AV}(h:x.cells.all dq=true):Sc x:=λy hy=>mf.1 h y hy
theorem AQ{α:Type}(el:α->AV)(fit:α->Prop){t e:TypeId}{fuel:Nat}{cs:lao}{d:DataW H}{p:laz}(hu:P.underlying t=some (.slice e))(hsz:Nat.blt 0 (P.cellsOf e)=true)(hby:Nat.blt 0 (P.bytesOf e)=true)
  (hel:∀x,(el x).cells.length=P.cellsOf e)(hsc:∀x,(el x).cells.all dq=true)(htop:∀x,(el x).top=0)
  (hrec:∀m,m<fuel->∀cs d p,DataW.trod enc P w base spare held m e cs=some (d,p)->Wt P e d->∃x,fit x/\VL (cF w) (el x).cells cs)
  (h:DataW.trod enc P w base spare held fuel t cs=some (d,p))(hw:Wt P t d):
  ∃l:List α,l.length<2^47/\(∀x,x∈l->fit x)/\VL (cF w) [.ls (l.map el)] cs:=by
 rw[dG]at hsz hby;simp only[decide_eq_true_eq]at hsz hby;rcases DataW.trod_slice hu h with⟨rfl,_⟩|⟨a,len,cap,elems,rest,n,rfl,rfl,h1,h2,h3,h4,h5,h6,_,_⟩
 ·exact⟨[],Nat.two_pow_pos 47,λx h=>absurd h (List.not_mem_nil),.cons .lsn .nil⟩
 ·simp only[sr]at h1;obtain⟨rfl,_⟩:=h1;have hwl:len<2^47:=by
   have:=hw ((elems.length+rest.length)*P.bytesOf e) (by grind[DataW.weights]);have h7:elems.length<=(elems.length+rest.length)*P.bytesOf e:=b0 (Nat.le_add_right _ _) (Nat.le_mul_of_pos_right _ hby);have:elems.length<=reachBytes:=b0 h7 this;rw[h5]at this;exact mR this (by decide)
  have el0:∀i,i<len->∃x,fit x/\∃cs:lao,cs.length=P.cellsOf e/\(∀j,j<P.cellsOf e->w.cell? ((a.add (i*P.cellsOf e)).add j)=cs[j]?)/\VL (cF w) (el x).cells cs:=by
   intro i hi;have k5:=h6 i hi;have hi':i<elems.length:=by omega
   rw[lE hi']at k5;simp only[Option.bind_eq_some_iff]at k5;obtain⟨cs,c1,c2⟩:=k5;obtain⟨z1,z2⟩:=EY c1;obtain⟨x,f1,f2⟩:=hrec n (by omega) cs elems[i].1 elems[i].2 c2 (λm hm=>hw m (by
    unfold DataW.weights;rw[hu];exact di _ (ux _ (qG hm (iO.2 ⟨elems[i],Eh hi',rfl⟩)))))
   grind
  obtain⟨l,q1,q2⟩:=Nz len el0;refine⟨l,by omega,λx hx=>?_,.cons ?_ .nil⟩
  ·obtain⟨i,hi⟩:=GU.1 hx;grind
  ·have q1':(l.map el).length=len:=by simp_all
   generalize hys:l.map el=ys at *;have q3:∀i y,ys[i]?=some y->∃cs:lao,cs.length=P.cellsOf e/\(∀j,j<P.cellsOf e->w.cell? ((a.add (i*P.cellsOf e)).add j)=cs[j]?)/\VL (cF w) y.cells cs:=by grind
   have q4:∀y,y∈ys->y.cells.length=P.cellsOf e/\Sc y:=by grind[abP]
   have q5:az ys=0:=by grind[aX]
   have addadd:∀i j:Nat,a.spot=none->(a.add i).add j=⟨a.block,a.off+i+j,none⟩:=by
    intro i j hs;obtain⟨blk,off,spot⟩:=a;grind[Addr.add]
   have spot:ys≠[]->a.spot=none:=by
    intro hne;obtain⟨x,hx⟩:∃x,ys[0]?=some x:=by
     cases ys with
     |nil=>simp_all
     |cons x r=>exact⟨x,rfl⟩
    grind[sk,Addr.add]
   have cell:∀(i j:Nat)(x:AV),ys[i]?=some x->j<P.cellsOf e->∃c v,cF w a.block=some c/\c[a.off+i*P.cellsOf e+j]?=some v/\∀y,x.cells[j]?=some y->VRel (λ_=>none) (cF w) y v:=by
    intro i j x hx hj;obtain⟨cs,c1,c2,c3⟩:=q3 i x hx;have:=c2 j hj;rw[lE (by omega),addadd _ _ (spot (by grind))]at this;obtain⟨_,c,m1,m2⟩:=sk this;refine⟨c,_,m1,m2,λy hy=>?_⟩;obtain⟨v,g1,g2⟩:=c3.at_ j y hy;simp_all
   refine .lsp ?_ q5;by_cases hne:ys=[]
   ·subst hne;simp at q1';subst q1';exact .ps (sz:=P.cellsOf e) (c:=#[]) (by simp) (λh=>by grind) (λh=>absurd rfl h) (λx h=>by simp_all) (λi x j y h=>by simp_all)
   ·have hlen:0<ys.length:=qB.2 hne;obtain⟨x0,hx0⟩:∃x,ys[ys.length-1]?=some x:=⟨ys[ys.length-1],by simp⟩
    obtain⟨c,v0,m1,m2,_⟩:=cell (ys.length-1) (P.cellsOf e-1) x0 hx0 (by omega);have hc:=(su.1 m2).1;have hfit:a.off+ys.length*P.cellsOf e<=c.size:=by
     have h1:(ys.length-1)*P.cellsOf e+P.cellsOf e=ys.length*P.cellsOf e:=by rw[<-qE];grind
     omega
    have:=VRel.ps (pl:=λ_=>none) (M:=cF w) (xs:=ys) (tight:=false) (a:=a) (cap:=cap) (sz:=P.cellsOf e) (c:=c) (by omega) (λh=>by grind) (λ_=>⟨spot hne,m1,hfit,hsz⟩) q4
     (λi x j y hx hy=>by
      obtain⟨r1,_⟩:=q4 x (bC hx);have hj:j<P.cellsOf e:=by grind
      obtain⟨c',v,n1,n2,n3⟩:=cell i j x hx hj;simp_all)
    simp_all
theorem nQ{α:Type}(el:α->AV)(fit:α->Prop){t e:TypeId}{fuel:Nat}{cs:lao}{d:DataW H}{p:laz}(hu:P.underlying t=some (.slice e))(hsz:Nat.blt 0 (P.cellsOf e)=true)(hby:Nat.blt 0 (P.bytesOf e)=true)
  (hel:∀x,(el x).cells.length=P.cellsOf e)(hsc:∀x,(el x).cells.all dq=true)(htop:∀x,(el x).top=0)
  (hrec:∀m,m<fuel->∀cs d p,DataW.trod enc P w base spare held m e cs=some (d,p)->Wt P e d->∃x,fit x/\VL (cF w) (el x).cells cs)
  (h:DataW.trod enc P w base spare held fuel t cs=some (d,p))(hw:Wt P t d):
  ∃l:List α,l.length<2^60/\(∀x,x∈l->fit x)/\VL (cF w) [.ls (l.map el)] cs:=by
 have⟨l,h1,h2⟩:=AQ el fit hu hsz hby hel hsc htop hrec h hw;grind
end
def nT(u:TUnit):lag:=u.head++u.words
mutual
def nL:TUnit->lag
 |⟨_,_,_,_,_,h,w,ks⟩=>(h++w)++lJ ks
def lJ:lad->lag
 |[]=>[]
 |k::r=>nL k++lJ r
end
theorem OX(u:TUnit):nL u=nT u++lJ u.kids:=by obtain⟨a,b,c,d,e,h,w,ks⟩:=u;rw[nL];rfl
theorem Ee:lJ []=[]:=by rw[lJ]
theorem uY(k:TUnit)(r:lad):lJ (k::r)=nL k++lJ r:=by rw[lJ]
theorem oT{k:Int}:∀{m:List (Int×Int)},g0 k m=none->¬k∈m.map (·.1)
 |[],_=>by simp
 | (i,x)::r,h=>by
  simp only[g0]at h;cases e:ae k i with
  |true=>grind
  |false=>
   rw[e]at h;have:=oT h;grind[NG]
section
variable{u w':TUnit}{ws:lag}{w:PWord}{r:lag}{ks:lad}{m x:List (Int×Int)}{c B:Int}
end
theorem VRel.ls0{pl:Pl}{M:dN}{x:Value}(h:VRel pl M (.ls []) x):VRel pl M .nils x\/VRel pl M (.ps [] false) x:=by
 cases h with
 |lsn=>exact .inl .nils
 |lsp h _=>simp_all
theorem F8{P:Program}{G:fz}{f:FuncId}{a b c:laa}{h:AHeap}{Ψ:AV->AHeap->Prop}(hs:∀pl M vs,VRels pl M c vs->VRels pl M a vs\/VRels pl M b vs)(h1:aO P G f a h Ψ)(h2:aO P G f b h Ψ):aO P G f c h Ψ:=λpl M w vs hg hr hv=>(hs pl M vs hv).elim (h1 pl M w vs hg hr) (h2 pl M w vs hg hr)
theorem VRels.first{pl:Pl}{M:dN}{x y z:AV}{r:laa}{vs:Array Value}(h:VRels pl M (z::r) vs)(hs:∀v,VRel pl M z v->VRel pl M x v\/VRel pl M y v):VRels pl M (x::r) vs\/VRels pl M (y::r) vs:=by
 obtain⟨h1,h2⟩:=h;have lift:∀u,VRel pl M u (vs.getD 0 undef)->VRels pl M (u::r) vs:=λu hu=>⟨h1,λj y hj=>by
  cases j with
  |zero=>grind
  |succ j=>simp_all⟩
 exact(hs _ (h2 0 z rfl)).imp (lift x) (lift y)
end Go.Ev
namespace Go.Ev
open Go
theorem aN{n b m:Nat}(h1:n<=m)(h2:m<=2^40)(h3:m*b<=2^40):small n b=true:=by
 unfold small;have h4:n*b<=m*b:=e9 b h1;grind[Nat.ble_eq_true_of_le]
def aap(d:Int):lak->lak
 |[]=>[d]
 |x::r=>bif aE x d then x::aap d r else bif ae x d then x::r else d::x::r
def dR(ws:lag)(l:lak):lak:=ws.foldl (λl w=>aap w.act l) l
def UM{α:Type}:Result α->World
 | .ok _ w=>w
 | .halt _ w=>w
def gW:GStep->World
 | .go _ w _=>w
 | .comm _ _ _ _ w _=>w
 | .spawn _ _ w _=>w
 | .count _ w _=>w
 | .timer _ _ w _=>w
 | .alone _ _ w _=>w
 | .newcoro _ _ _ w _=>w
 | .coroswitch _ _ _ w _=>w
 | .collect _ w _=>w
 | .watch _ w _=>w
 | .ended _ w _=>w
theorem lP(es:Array Event)(g:GStep):gW (GStep.after es g)=gW g:=by cases g<;>rfl
theorem Ld{α:Type}:∀(q:Ask α)(w:World),w.drawn<=(w.ask q).2.drawn
 | .done a,w=>ar _
 | .ask what range k,w=>by
  rw[World.ask];split
  ·exact Ld (k 0) w
  ·exact b0 (om _) (Ld _ {w with drawn:=w.drawn+1})
theorem QD(w:World)(c:Sys):w.drawn<=(w.sys c).2.drawn:=by
 unfold World.sys;have h:=Ld (Kernel.perform c w.os) w;grind
theorem yw{p:Program}{w w':World}{at_:Addr}{u:TypeId}{k:Addr}{v:Value}{b:Bool}{l:List Addr}(h:w.viewStore p at_ u k v b=.ok (w',l)):w'.drawn=w.drawn:=by
 unfold World.viewStore at h;simp only[bind,Except.bind,pure,Except.pure]at h
 repeat' split at h
 all_goals first|cases h;done|(injection h with h;injection h with h1 h2;rw[<-h1])
theorem Ba{p:Program}{w w':World}{a:Addr}{v:Value}{b:Bool}{l:List Addr}(h:w.farStore p a v b=.ok (w',l)):w'.drawn=w.drawn:=by
 unfold World.farStore at h
 repeat' split at h
 all_goals first|cases h;done|grind[yw]
theorem Fk(w:World)(a:Addr)(n:Nat):(w.freeze a n).drawn=w.drawn:=by unfold World.freeze;grind
theorem Q2(p:Program){α:Type}(s:Sem α):∀(w:World),w.drawn<=(UM (s.run p w)).drawn:=by
 induction s with
 |pure a=>exact λw=>ar _
 |load m a k ih=>
  intro w;simp only[Sem.run]
  repeat' split
  all_goals first|exact ih _ _|exact ar _
 | store m a v k ih=>
  intro w;cases v
  all_goals simp only[Sem.run]
  all_goals first
   |exact ar _
   |((repeat' split);all_goals first|exact ar _|exact ih (w.setCell _ _)|(rename_i e;refine b0 ?_ (ih _);rw[Ba e];exact ar _))
 |new o k ih=>grind[Sem.run]
 |shape r k ih=>grind[Sem.run]
 |freeze a n k ih=>intro w;simp only[Sem.run];refine b0 ?_ (ih _);simp_all[Fk]
 |frozen a k ih=>grind[Sem.run]
 |getObj r k ih=>
  intro w;simp only[Sem.run]
  repeat' split
  all_goals first|exact ih _ _|exact ar _
 |setObj r o k ih=>
  intro w;simp only[Sem.run]
  repeat' split
  all_goals first|exact ih {w with heap:=w.heap.setIfInBounds r o}|exact ar _
 |choose q k ih=>
  intro w;simp only[Sem.run];grind
 |sys c k ih=>grind[Sem.run,QD]
 |program k ih=>grind[Sem.run]
 |mark m k ih=>grind[Sem.run]
 |halt h=>exact λw=>ar _
theorem dX{p:Program}{α:Type}{s:Sem α}{w:World}{r:Result α}(h:s.run p w=r):w.drawn<=(UM r).drawn:=h▸Q2 p s w
theorem UH{p:Program}{α:Type}{s:Sem α}{w:World}{es es':Array Event}{r:Result α}(h:s.runT p w es=(r,es')):w.drawn<=(UM r).drawn:=by
 have:=Sem.runT_fst p s w es;rw[h]at this;exact dX this.symm
theorem K8(w:World)(fd:Nat)(text:ByteArray)(o:Outcome):w.drawn<=(gW (endWith w fd text o)).drawn:=by
 unfold endWith;simp only[];have h:=QD w (.write fd text);split;all_goals (rename_i e;rw[e]at h)
 all_goals repeat' split
 all_goals exact h
theorem x9(fr:Frame)(m:String)(w:World):w.drawn<=(gW (endThrow fr m w)).drawn:=ar _
theorem rl(p:Program)(fr:Frame)(v:Value)(w:World):w.drawn<=(gW (endPrinting p fr v w)).drawn:=by
 unfold endPrinting;simp only[]
 repeat' split
 all_goals exact ar _
theorem yQ(p:Program)(fr:Frame)(cs:List Frame)(d:lbg)(m:String)(w:World):w.drawn<=(gW (endFatal p fr cs d m w)).drawn:=by
 unfold endFatal;simp only[];split;all_goals (rename_i e;exact dX e)
theorem Jg(p:Program)(fr:Frame)(d:Dying)(f:Fatal)(w:World):w.drawn<=(gW (writeOn p fr d f w)).drawn:=by
 unfold writeOn;split
 ·exact ar _
 ·simp only[];split;all_goals (rename_i e;exact UH e)
theorem Zv(p:Program)(fr:Frame)(d:Dying)(w:World):w.drawn<=(gW (die p fr d w)).drawn:=by
 unfold die;split
 ·grind[Jg]
 ·split
  ·split
   ·exact ar _
   grind[K8]
  ·simp only[];split
   ·exact ar _
   ·split;all_goals (rename_i e;exact dX e)
   ·rw[lP];split;all_goals first|(rename_i e;exact dX ((Sem.runT_fst ..).symm.trans e))|skip
    ·rename_i e;exact b0 (dX ((Sem.runT_fst ..).symm.trans e)) (rl ..)
    ·exact ar _
   ·exact ar _
theorem rn(p:Program)(main:Bool)(fr:Frame)(cs:List Frame)(d:lbg)(v:Value)(w:World):w.drawn<=(gW (doReturn p main fr cs d v w)).drawn:=by
 unfold doReturn
 repeat' split
 all_goals exact ar _
theorem tL{c:Prop}[Decidable c]{a b:GStep}{n:Nat}(h1:n<=(gW a).drawn)(h2:n<=(gW b).drawn):n<=(gW (if c then a else b)).drawn:=by grind
theorem yn(p:Program)(fr:Frame)(cs:List Frame)(dy:lbg)(d:Deferred)(w:World):w.drawn<=(gW (callDeferred p fr cs dy d w)).drawn:=by
 unfold callDeferred;refine tL ?_ ?_
 ·exact ar _
 ·simp only[];rw[lP];split;all_goals (rename_i e;have h:=dX ((Sem.runT_fst ..).symm.trans e))
  all_goals first|exact h|exact b0 h (yQ ..)|((repeat' split)<;>exact h)
theorem Ov(p:Program)(main:Bool)(fr:Frame)(cs:List Frame)(dy:lbg)(w:World):w.drawn<=(gW (unwind p main fr cs dy w)).drawn:=by
 unfold unwind;split
 ·simp only[];rw[lP];split;all_goals (rename_i e;exact dX ((Sem.runT_fst ..).symm.trans e))
 ·grind[yn]
 ·split
  ·exact ar _
  ·split
   ·exact ar _
   ·split
    ·exact ar _
    ·split
     ·split
      ·exact ar _
      ·split;all_goals (rename_i e;exact dX e)
     ·split
      ·grind[rl]
      ·exact ar _
  ·split
   ·grind[rn]
   ·simp only[];rw[lP];split;all_goals (rename_i e;have h:=dX ((Sem.runT_fst ..).symm.trans e))
    all_goals first|exact h|exact b0 h (rn ..)
theorem TX(p:Program)(fr:Frame)(cs:List Frame)(dy:lbg)(g:Nat)(w:World):w.drawn<=(gW (early p fr cs dy g w)).drawn:=by
 unfold early;simp only[]
 repeat' split
 all_goals first|exact ar _|(rename_i e;exact dX e)|(rename_i e _;exact dX e)|(rename_i e _ _;exact dX e)|(rename_i e _ _ _ _;exact dX e)
theorem vL(p:Program)(listen:Bool)(fr:Frame)(cs:List Frame)(dy:lbg)(s:Sem Next)(w:World):w.drawn<=(gW (stepG.apply p listen fr cs dy s w)).drawn:=by
 unfold stepG.apply;simp only[];rw[lP];have h0:w.drawn<=(UM (if listen=true then Sem.runT p s w #[]else(Sem.run p s w,#[])).fst).drawn:=by
  cases listen
  ·grind[Q2]
  ·exact dX (Sem.runT_fst ..).symm
 generalize (if listen=true then Sem.runT p s w #[]else(Sem.run p s w,#[])).fst=r at h0 ⊢;split;all_goals first|exact h0|exact b0 h0 (yQ ..)|exact b0 h0 (TX ..)|exact b0 h0 (x9 ..)|skip
 all_goals repeat' split
 all_goals first|exact h0|exact b0 h0 (x9 ..)|skip
theorem VV(p:Program)(listen:Bool)(fr:Frame)(cs:List Frame)(dy:lbg)(w:World):w.drawn<=(gW (stepG.oper p listen fr cs dy w)).drawn:=by
 unfold stepG.oper;split
 ·exact ar _
 ·split;all_goals exact vL ..
theorem Wy(p:Program)(main listen:Bool)(fr:Frame)(cs:List Frame)(dy:lbg)(w:World):w.drawn<=(gW (stepG.exec p main listen fr cs dy w)).drawn:=by
 have lv:∀(l:Nat)(jump:Option Code),w.drawn<=(gW (GStep.after (seen p fr.fn ((Instr.endRound l jump).runT p w #[]).snd) (match((Instr.endRound l jump).runT p w #[]).fst with| .ok v w=>doReturn p main fr cs dy v w| .halt _ w=>.ended (.stuck "range over a function: no such loop" (fr.pos p)) w))).drawn :=by
  intro l jump;rw[lP];have h0:=dX (Sem.runT_fst p (Instr.endRound l jump) w #[]).symm;split;all_goals (rename_i e;rw[e]at h0)
  ·exact b0 h0 (rn ..)
  ·exact h0
 unfold stepG.exec;simp only[];split;all_goals first|exact ar _|exact vL .. |skip
 ·split
  ·exact tL (ar _) (ar _)
  grind
 ·split
  ·exact tL (ar _) (ar _)
  grind
 ·split<;>exact ar _
 ·rename_i id k _;cases exitTo id k with
  |none=>simp only[Option.elim];split;exact tL (ar _) (ar _);grind
  |some k'=>exact ar _
 ·rename_i id k _;cases gotoIn id k with
  |none=>simp only[Option.elim];split;exact tL (ar _) (ar _);grind
  |some k'=>exact ar _
 ·rw[lP];split
  ·rename_i e;exact b0 (dX ((Sem.runT_fst ..).symm.trans e)) (vL ..)
  ·rename_i e;exact dX ((Sem.runT_fst ..).symm.trans e)
 ·rw[lP];split<;>rename_i e<;>exact dX ((Sem.runT_fst ..).symm.trans e)
 ·rename_i row _ _ _;cases Extern.next row with
  |none=>exact ar _
  |some e=>grind[vL]
 ·refine tL (ar _) ?_;split<;>rename_i e<;>exact dX e
 ·exact tL (VV ..) (ar _)
theorem QG(p:Program)(main listen:Bool)(g:Goroutine)(w:World):w.drawn<=(gW (stepG p main g w listen)).drawn:=by
 unfold stepG;grind[Zv,Wy,Ov]
def sD(n:Nat):Stepped->Prop
 | .next m=>n<=m.world.drawn
 | .ended _ _=>True
theorem sD.trans{n k:Nat}{s:Stepped}(h:n<=k)(g:sD k s):sD n s:=by
 cases s with
 |next m=>exact b0 h g
 |ended o w=>trivial
theorem R7{c:Prop}[Decidable c]{a b:Stepped}{n:Nat}(h1:sD n a)(h2:sD n b):sD n (if c then a else b):=by grind
theorem Nq(p:Program)(gs:Array Goroutine)(rest:Rest)(w:World):sD w.drawn (look p gs rest w):=by
 unfold look;simp only[];split
 ·refine R7 trivial ?_;split
  ·trivial
  ·split<;>rename_i e<;>first|exact dX e|trivial
 ·trivial
theorem yk{rest:Rest}{cases:Array CommCase}{w w':World}(h:waitingAt rest cases w=some w'):w'.drawn=w.drawn:=by
 unfold waitingAt at h
 repeat' split at h
 all_goals first|(cases h;done)|(cases h;rfl)
theorem FK{c:Prop}[Decidable c]{a b:Stepped×Array MemOp}{n:Nat}(h1:sD n a.1)(h2:sD n b.1):sD n (if c then a else b).1:=by grind
theorem BA(p:Program)(rest:Rest)(gs:Array Goroutine)(i:Nat)(g:Goroutine)(cs:Array CommCase)(bl:Bool)(sh:CommShape)(w:World):sD w.drawn (communicate p rest gs i g cs bl sh w).1:=by
 unfold communicate;simp only[];refine FK trivial (FK (FK ?_ (ar _)) ?_)
 ·split
  ·rename_i e;exact uj (yk e).symm
  ·trivial
 ·split
  ·trivial
  ·rename_i w1 e;have h:w.drawn<=w1.drawn:=dX e;clear e;split
   ·split
    ·rename_i e;exact b0 h (dX e)
    ·trivial
   ·exact h
   ·exact h
   ·split
    ·exact h
    ·split
     ·rename_i e;exact b0 h (dX e)
     ·trivial
   ·exact h
   ·exact h
   ·trivial
theorem QT(p:Program)(m:Machine)(k:Nat):sD m.world.drawn (serve p m k):=by
 unfold serve;split
 ·trivial
 ·exact ar _
 ·simp only[];split
  ·trivial
  ·exact ar _
theorem Cz{m m':Machine}{op:TimerOp}{v:Value}(h:timerOp m op=.ok (v,m')):m'.world.drawn=m.world.drawn:=by
 have rt:∀(m:Machine)(k:Nat)(t:Timer)(a b:Nat),(retime m k t a b).2.world.drawn=m.world.drawn:=by
  intro m k t a b;unfold retime drain;grind
 cases op with
 |new t=>
  simp only[timerOp]at h
  repeat' split at h
  all_goals first|(cases h;done)|(cases h;rfl)
 |stop var=>
  simp only[timerOp,timerOp.named]at h;grind
 | reset var a b=>
  simp only[timerOp,timerOp.named,timerOp.opened]at h;split at h
  ·rename_i e;have e2:∀m2:Machine,(if waitedFor m var=true then match Kernel.withPoller m.world.os with| .ok os=>some {m with world:={m.world with os}}| .error _=>none else some m)=some m2->m2.world.drawn=m.world.drawn:=by
    intro m2 e
    repeat' split at e
    all_goals first|(cases e;done)|(cases e;rfl)
   grind
  ·grind
 |deadline a b c d=>simp only[timerOp]at h;cases h;rfl
theorem UG(p:Program)(m:Machine)(i:Nat)(b:Bool):sD m.world.drawn (runT p m i b).1:=by
 unfold runT;simp only[];have h:=QG p (i==0) b (m.gs.swapAt! i {(default:Goroutine)with status:=.finished}).1 m.world;generalize stepG p (i==0) (m.gs.swapAt! i {(default:Goroutine)with status:=.finished}).1 m.world b=s at h ⊢;cases s
 all_goals simp only[]
 all_goals try exact h
 all_goals try trivial
 ·exact sD.trans h (BA ..)
 ·exact R7 trivial h
 ·split
  ·rename_i e;exact b0 h (uj (Cz e).symm)
  ·split
   ·rename_i e;cases e;exact h
   ·trivial
  ·trivial
  ·trivial
 ·split
  ·exact h
  ·split
   ·rename_i e;cases e;exact h
   ·trivial
  ·trivial
 ·exact sD.trans h (Nq ..)
def QY(n:Nat):Move->Prop
 | .goroutine m _=>n<=m.world.drawn
 | .machine s _=>sD n s
theorem QY.trans{n k:Nat}{s:Move}(h:n<=k)(g:QY k s):QY n s:=by
 cases s with
 |goroutine m i=>exact b0 h g
 |machine s o=>exact sD.trans h g
theorem BR(p:Program)(m:Machine):QY m.world.drawn (askOn p m):=by
 have pick:∀(m:Machine)(rs:laf),QY m.world.drawn (match(choose (.sched rs.length)).run p m.world with
   | .halt _ w=>.machine (.ended (.stuck "sched" "") w)
   | .ok k world=>
    if rs.length<=1 then .goroutine {m with world} (rs.getD k 0)else
    match(choose (.extern "sched.slice" 65536)).run p world with
    | .halt _ w=>.machine (.ended (.stuck "sched.slice" "") w)
    | .ok n world=>.goroutine {m with world,rest:={m.rest with slice:=if n=0 then none else some (rs.getD k 0,n)}} (rs.getD k 0)):=by
  intro m rs;split
  ·trivial
  ·rename_i w1 e;have h:m.world.drawn<=w1.drawn:=dX e;split
   ·exact h
   ·split
    ·trivial
    ·rename_i e;exact b0 h (dX e)
 unfold askOn;simp only[];split
 ·trivial
 ·rename_i k w1 e;have h:m.world.drawn<=w1.drawn:=dX e;clear e;split
  ·exact sD.trans h (QT p {m with world:=w1} _)
  ·split
   ·split
    ·exact h
    ·split
     ·exact h
     ·split<;>trivial
   ·split
    ·exact QY.trans h (pick {m with world:=w1} _)
    ·split
     ·trivial
     ·rename_i w2 e;exact QY.trans (b0 h (dX e)) (pick {m with world:=w2} _)
     ·rename_i e;exact b0 h (dX e)
     ·rename_i k2 w2 e;exact QY.trans (b0 h (dX e)) (pick (Machine.advanceTo {m with world:=w2} _) _)
theorem N9(p:Program)(m:Machine):QY m.world.drawn (ask p m):=by
 unfold ask;split
 ·split
  ·trivial
  ·rename_i w1 e;have h:m.world.drawn<=w1.drawn:=dX e;have h2:=Nq p m.gs m.rest w1;split
   ·rename_i e2;rw[e2]at h2;exact QY.trans (b0 h h2) (BR ..)
   ·exact sD.trans h h2
  ·rename_i w1 _ e;have h:m.world.drawn<=w1.drawn:=dX e;exact QY.trans h (BR p {m with world:=w1})
 grind[BR]
theorem Vw(p:Program)(m:Machine):QY m.world.drawn (move p m):=by
 unfold move;split
 ·split
  ·exact ar _
  ·trivial
 ·split
  ·split
   ·exact ar _
   ·exact N9 p {m with rest:={m.rest with slice:=none}}
  grind[N9]
theorem Us(p:Program)(m:Machine):sD m.world.drawn (step p m):=by
 unfold step stepT;have h:=Vw p m;split
 ·rename_i e;rw[e]at h;exact sD.trans h (UG ..)
 ·rename_i e;rw[e]at h;exact h
theorem Mk(p:Program):∀(n:Nat)(m m':Machine),runN p n m=.next m'->m.world.drawn<=m'.world.drawn
 |0,m,m',h=>by cases h;omega
 |n+1,m,m',h=>by
  rw[runN]at h;have h1:=Us p m;split at h
  ·rename_i e;rw[e]at h1;exact b0 h1 (Mk p n _ _ h)
  simp_all
theorem QF{p:Program}{m m':Machine}(h:Steps p m m'):m.world.drawn<=m'.world.drawn:=by
 obtain⟨n,h⟩:=h;exact Mk p n m m' h
theorem I1{p:Program}{f:FuncId}{args:Array Value}{w:World}{R:Ending->World->Prop}(h:Calls p f args w R):Calls p f args w λe w'=>R e w'/\((∃v,e=.returned v)->w.drawn<=w'.drawn):=by
 intro cs;obtain⟨e,w',fr,h1,h2,h3,h4⟩:=h cs;refine⟨e,w',fr,⟨h1,?_⟩,h2,h3,h4⟩
 rintro⟨v,rfl⟩
 exact QF (m:=lone _ cs w) (m':=lone fr cs w') h2
end Go.Ev
namespace Go.Ev
open Go Go.RowKit
section
variable{P:Program}{G:fz}{pl:Pl}{M:dN}{h:AHeap}{w w':World}{f:FuncId}{args:laa}{v:AV}
theorem cS.below(hr:cS pl M h w)(hb:Below w.heap.size w w'):cS pl M h w':=
 ⟨hr.dom,λid p o h1 h2=>by rw[hb.block _ (hr.blk id p h1)];exact hr.obj id p o h1 h2,λid p h1=>CI (hr.blk id p h1) hb.size,hr.inj,
  λb c h1=>by rw[hb.block _ (hr.memLt h1)];exact hr.imm b c h1,hr.sep⟩
theorem dK.below(hb:Below w.heap.size w w')(hd:w.drawn<=w'.drawn):dK h pl M w h pl M w':=⟨nS.refl _,λ_ _ h=>h,λ_ _ h=>h,hb.size,λb h1 _=>hb.block b h1,λid p h=>.inl ⟨p,h,rfl⟩,λ_ _ _ h=>h,λ_ _ h _=>h,λ_ _ h=>.inl h,hb.os,hb.tape,hb.output,hd⟩
theorem aP.below(hE:∀vs w,(callFunc f vs).run P w=.ok (.enter f vs) w)
  (hC:∀(pl:Pl)(M:dN)(w:World)(vs:Array Value)(h:AHeap),qc G pl M->cS pl M h w->VRels pl M args vs->∃cv,VRel pl M v cv/\Calls P f vs w λe w'=>e=.returned cv/\Below w.heap.size w w'):aP P G f args v:=by
 intro h pl M w vs hG hr hv;obtain⟨cv,h1,h2⟩:=hC pl M w vs h hG hr hv;refine .inl ⟨hE _ _,Calls.mono (I1 h2) λe w' ⟨⟨he,hb⟩,hd⟩=>?_⟩;exact⟨cv,v,h,he,⟨rfl,rfl⟩,pl,M,h1,hr.below hb,dK.below hb (hd ⟨_,he⟩),ar _⟩
theorem aP.calls(hGT:jK G)(hE:∀vs w,(callFunc f vs).run P w=.ok (.enter f vs) w)(hp:aP P G f args v)(hG:qc G pl M)(hr:cS pl M h w){vs:Array Value}(hv:VRels (λ_=>none) M args vs):
  Calls P f vs w λe w'=>(∃cv pl' M',e=.returned cv/\VRel pl' M' v cv)/\Below w.heap.size w w'/\w.drawn<=w'.drawn:=by
 have r0:cS (λ_=>none) M AHeap.none w:=⟨λ_ _ h=>(by grind),λ_ _ _ h _=>(by grind),λ_ _ h=>(by grind),λ_ _ _ _ h _ _=>(by grind),hr.imm,λ_ _ h=>(by grind)⟩
 rcases hp AHeap.none (λ_=>none) M w vs (hG.none hGT) r0 hv with⟨_,h2⟩|⟨cv,w1,v1,h1,e1,_,_⟩
 ·refine Calls.mono h2 λe w' ⟨cv,v1,h1,he,⟨e1,e2⟩,pl',M',g1,g2,g3,_⟩=>?_
  subst e1;exact⟨⟨cv,pl',M',he,g1⟩,⟨g3.os,g3.tape,g3.out,g3.size,λb hb=>g3.kept b hb λid p h=>(by grind)⟩,g3.drawn⟩
 ·grind
end
def QU(lo hi:Int)(c:UInt8):Bool:=ak (aE (.ofNat c.toNat) lo||aE hi (.ofNat c.toNat))
abbrev kL:UInt8->Bool:=QU 48 57
abbrev Zm:UInt8->Bool:=QU 65 90
def eH(p:UInt8->Bool)(s:bZ):Nat:=(s.takeWhile p).length
section
variable{p:UInt8->Bool}{s:bZ}
theorem Mm:eH p s<=s.length:=(List.takeWhile_prefix p).length_le
theorem Mu:∀{s:bZ}{i:Nat},i<eH p s->p (gD s i)=true
 |[],i,h=>by simp_all[eH]
 | c::r,i,h=>by
  cases hc:p c with
  |false=>simp_all[eH]
  |true=>
   cases i with
   |zero=>exact hc
   |succ i=>exact Mu (s:=r) (by simp_all[eH])
theorem GR:∀{s:bZ},eH p s<s.length->p (gD s (eH p s))=false
 |[],h=>by simp_all
 | c::r,h=>by
  cases hc:p c with
  |false=>simp[eH,hc,gD]
  |true=>
   have h2:eH p r<r.length:=by simp_all[eH]
   have:=GR (s:=r) h2;simp_all[eH,gD]
theorem wj:∀{s:bZ},eH p s=s.length↔s.all p=true
 |[]=>by simp[eH]
 |c::r=>by
  have ih:eH p r=r.length↔r.all p=true:=wj;cases hc:p c with
  |false=>simp[eH,hc]
  |true=>simp_all[eH]
end
theorem YP{lo hi:Int}{c:UInt8}(h1:aE hi (.ofNat c.toNat)=true):QU lo hi c=false:=by grind[QU]
def kB(s:bZ):Bool:=ak (aE (.ofNat (s.take (eH kL s)).length) 1)&&(ak (aE 4 (.ofNat (s.take (eH kL s)).length))&&(ak (ae (.ofNat (gD (s.take (eH kL s)) 0).toNat) 48)&&(ak (aE 3 (.ofNat (s.drop (eH kL s)).length))&&(s.drop (eH kL s)).all Zm)))
def sF(s:bZ):Bool:=ak (aE (.ofNat s.length) 1)&&(ak (aE 24 (.ofNat s.length))&&s.all (QU 33 126))
def rZ(l:laj):Bool:=ak (aE 256 (.ofNat l.length))&&l.all sF
theorem FZ:({data:=#[]}:ByteArray).data.toList=([]:lar):=rfl
theorem TQ(s:bZ):aE (.ofNat s.length) 1=ei s []:=by cases s<;>rfl
def cN{α:Type}(p:α->Bool):List α->Nat->Int
 |[],_=> -1
 |x::r,i=>bif p x then Int.ofNat i else cN p r (i+1)
theorem jD{α:Type}(p:α->Bool):∀(l:List α)(i:Nat),aE (cN p l i) 0=ak (l.any p)
 |[],_=>rfl
 |x::r,i=>by
  unfold cN;rw[zf];cases h:p x with
  |true=>rfl
  |false=>simp_all[jD]
section
variable{α:Type}{p:α->Bool}{l x r:List α}{w:α}{j:Nat}
theorem o8(h1:l.drop j=x)(h2:x=w::r):l.length-(w::r).length=j/\l.length-r.length=j+1:=by grind
theorem jM(h1:l.drop j=x)(h2:x=w::r)(h3:cN p l 0=cN p (w::r) (l.length-(w::r).length))(h4:p w=true):cN p l 0=Int.ofNat j:=by rw[h3,(o8 h1 h2).1,cN,h4];rfl
theorem ii(h1:l.drop j=x)(h2:x=w::r)(h3:cN p l 0=cN p (w::r) (l.length-(w::r).length))(h4:p w=false):cN p l 0=cN p r (l.length-r.length):=by rw[h3,(o8 h1 h2).1,(o8 h1 h2).2,cN,h4];rfl
theorem wG:cN p l 0=cN p l (l.length-l.length):=by simp_all
end
def nN(s:PStep):Bool:=ae s.kind 0&&ei s.label []
def uf(s:PStep):Bool:=aE 0 s.kind&&(ak (aE 7 s.kind)&&kB s.label)
def P6:lap->Bool
 |[]=>true
 |s::r=>(nN s||uf s)&&r.all uf
def lK(p:lap):Bool:=P6 p&&ak (aE 9 (.ofNat p.length))
def JU(p r:lap):Bool:=bif Nat.beq r.length p.length then P6 r else r.all uf
theorem P5{p:lap}:P6 p=JU p p:=by simp_all[JU]
theorem Xq{p:lap}:JU p []=true:=by unfold JU;cases Nat.beq ([]:lap).length p.length<;>rfl
theorem FR{p x r:lap}{w:PStep}{j:Nat}(h1:p.drop j=x)(h2:x=w::r)(h3:P6 p=JU p (w::r)):P6 p=((bif ae (Int.ofNat j) 0 then(nN w||uf w)else uf w)&&JU p r):=by
 obtain⟨e1,e2⟩:=o8 h1 h2;have e3:=congrArg List.length (h1.trans h2);simp only[zw,dw]at e1 e2 e3;have f1:Nat.beq r.length p.length=false:=by cases h:Nat.beq r.length p.length with|false=>rfl|true=>grind[Nat.eq_of_beq_eq_true]
 rw[h3];unfold JU;rw[f1];cases j with
 |zero=>
  have f2:Nat.beq (w::r).length p.length=true:=by simp_all
  rw[f2];rfl
 |succ j=>
  have f2:Nat.beq (w::r).length p.length=false:=by cases h:Nat.beq (w::r).length p.length with|false=>rfl|true=>simp_all
  rw[f2];rfl
def dc:Int->bZ
 |0=>[98,111,111,107]
 |1=>[112,97,114,116]
 |2=>[115,101,99,116,105,111,110]
 |3=>[112,97,114,97,103,114,97,112,104]
 |4=>[116,97,98,108,101]
 |5=>[114,111,119]
 |6=>[99,101,108,108]
 |7=>[110,111,116,101]
 |_=>[]
def Jt:Int->lak
 |0=>[1,2]
 |1=>[2]
 |2=>[3,4,7]
 |3=>[3,4,7]
 |4=>[5]
 |5=>[6]
 |_=>[]
def jd(p k:Int):Bool:=(Jt p).any (ae k)
theorem Ki{k:Int}(h:k<0\/7<k):dc k=[]:=by
 unfold dc;grind
theorem Js{k:Int}(h:k<0\/7<k):Jt k=[]:=by
 unfold Jt;grind
end Go.Ev
namespace Go.Ev
open Go Go.RowKit Go.Proofs
structure ClassOf(p:UInt8->Bool)(q:Nat->Bool):Prop where
 low:∀c:UInt8,c.toNat<128->q c.toNat=ak (p c)
 high:∀n,128<=n->q n=true
 none:∀c:UInt8,128<=c.toNat->p c=false
theorem WK{s:bZ}{i:Nat}(h:i<s.length)(h2:i<ByteArray.size ⟨⟨s⟩⟩):(ByteArray.mk ⟨s⟩)[i]'h2=gD s i:=by
 simp[gD,List.getD,lE h];rfl
theorem vk{p:UInt8->Bool}{q:Nat->Bool}(hc:ClassOf p q)(s:bZ):∀(f pos:Nat),pos<=eH p s->s.length<=pos+f->Lib.idxFuncFrom q true ⟨⟨s⟩⟩ f pos=(bif Nat.beq (eH p s) s.length then -1 else Int.ofNat (eH p s))
 | f,pos,h1,h2=>by
  have hl:=Mm (p:=p) (s:=s);have hsz:ByteArray.size ⟨⟨s⟩⟩=s.length:=rfl;by_cases he:pos<s.length
  ·cases f with
   |zero=>omega
   | succ f=>
    unfold Lib.idxFuncFrom;rw[hsz,if_pos he];have hb:=WK he (by rw[hsz];exact he);by_cases hr:pos<eH p s
    ·have hp:=Mu hr;have ha:(gD s pos).toNat<128:=by
      rcases fg (gD s pos).toNat 128 with h|h
      ·exact h
      ·rw[hc.none _ h]at hp;cases hp
     rw[decode_ascii _ pos (by rw[hsz];exact he) (by rw[hb];exact ha),hb];rw[if_neg (by rw[hc.low _ ha,hp];decide)];exact vk hc s f (pos+1) hr (by omega)
    ·have e:eH p s=pos:=by omega
     have hp:=GR (p:=p) (s:=s) (by omega);rw[e]at hp;have hq:q (Utf8.decode ⟨⟨s⟩⟩ pos).1=true:=by
      rcases fg (gD s pos).toNat 128 with h|h
      ·rw[decode_ascii _ pos (by rw[hsz];exact he) (by rw[hb];exact h),hb,hc.low _ h,hp];rfl
      ·exact hc.high _ (decode_high _ pos (by rw[hsz];exact he) (by rw[hb];exact h)).1
     rw[if_pos hq,e];have f1:Nat.beq pos s.length=false:=by cases h:Nat.beq pos s.length with|false=>rfl|true=>have:=qW h;omega
     rw[f1];rfl
  ·have e:eH p s=s.length:=by omega
   rw[Lib.idxFuncFrom_end _ _ _ _ _ (by rw[hsz];exact he),e,qt];rfl
theorem xI{p:UInt8->Bool}{q:Nat->Bool}(hc:ClassOf p q)(s:bZ):Lib.idxFunc q true ⟨⟨s⟩⟩=(bif Nat.beq (eH p s) s.length then -1 else Int.ofNat (eH p s)):=vk hc s _ 0 (b6 _) (by show s.length<=0+s.length;omega)
section
variable{P:Program}{G:fz}{f g:FuncId}
theorem DY{pl:Pl}{M:dN}{w:World}{h:AHeap}(hGT:jK G)(hg2:∀args w,(callFunc g args).run P w=.ok (.enter g args) w){q:Nat->Bool}{qI:Int->Bool}(hp:∀r:Int,aP P G g [.int .i32 r] (.bool (qI r)))(hq:∀n:Nat,qI (.ofNat n)=q n)
  (hG:qc G pl M)(hr:cS pl M h w):PredGrows P g #[] q w:=by
 intro W x _ hb;refine Calls.mono (aP.calls hGT hg2 (hp (.ofNat x)) hG (hr.below hb) (vs:=#[.int .i32 (.ofNat x)]) ⟨rfl,λj y hj=>?_⟩) λe w' ⟨⟨cv,pl',M',he,hv⟩,hb',_⟩=>?_
 ·cases j with
  |zero=>simp at hj;subst hj;exact .int _ _
  |succ j=>simp_all
 grind[cases VRel]
theorem A9(hGT:jK G)(hE:∀vs w,(callFunc f vs).run P w=.ok (.enter f vs) w)(hg2:∀args w,(callFunc g args).run P w=.ok (.enter g args) w){q:Nat->Bool}{qI:Int->Bool}
  (hC:∀(s:ByteArray)(w:World),PredGrows P g #[] q w->Calls P f #[.string s,.func (.func g) #[] #[]] w λe w'=>e=.returned (.int .i64 (Lib.idxFunc q true s))/\Below w.heap.size w w')
  (hp:∀r:Int,aP P G g [.int .i32 r] (.bool (qI r)))(hq:∀n:Nat,qI (.ofNat n)=q n){p:UInt8->Bool}(hc:ClassOf p q)(s:bZ):
  aP P G f [.str s,.func (.func g) [] []] (.int .i64 (bif Nat.beq (eH p s) s.length then -1 else Int.ofNat (eH p s))):=by
 refine aP.below hE λpl M w vs h hG hr hv=>?_
 obtain⟨a,b,rfl,hv1,hv2⟩:=B0 hv;have e2:=Az hv2;subst e2;cases hv1
 rw[<-xI hc s];exact⟨_,.int _ _,hC ⟨⟨s⟩⟩ w (DY hGT hg2 hp hq hG hr)⟩
theorem vA(hGT:jK G)(hE:∀vs w,(callFunc f vs).run P w=.ok (.enter f vs) w)(hg2:∀args w,(callFunc g args).run P w=.ok (.enter g args) w){q:Nat->Bool}{qI:Int->Bool}
  (hC:∀(s:ByteArray)(w:World),PredGrows P g #[] q w->Calls P f #[.string s,.func (.func g) #[] #[]] w λe w'=>e=.returned (.bool (decide (0<=Lib.idxFunc q true s)))/\Below w.heap.size w w')
  (hp:∀r:Int,aP P G g [.int .i32 r] (.bool (qI r)))(hq:∀n:Nat,qI (.ofNat n)=q n){p:UInt8->Bool}(hc:ClassOf p q)(s:bZ):
  aP P G f [.str s,.func (.func g) [] []] (.bool (ak (s.all p))):=by
 refine aP.below hE λpl M w vs h hG hr hv=>?_
 obtain⟨a,b,rfl,hv1,hv2⟩:=B0 hv;have e2:=Az hv2;subst e2;cases hv1
 have e:ak (s.all p)=decide (0<=Lib.idxFunc q true ⟨⟨s⟩⟩):=by
  rw[xI hc s];cases ha:s.all p with
  |true=>rw[(wj (p:=p)).2 ha,qt];rfl
  | false=>
   have:Nat.beq (eH p s) s.length=false:=by
    cases hb:Nat.beq (eH p s) s.length with
    |false=>rfl
    |true=>grind[wj,Nat.eq_of_beq_eq_true]
   simp_all
 rw[e];exact⟨_,.bool _,hC ⟨⟨s⟩⟩ w (DY hGT hg2 hp hq hG hr)⟩
end
theorem II{lo hi:Nat}(h:hi<128):ClassOf (QU (Int.ofNat lo) (Int.ofNat hi)) λn=>aE (Int.ofNat n) (Int.ofNat lo)||aE (Int.ofNat hi) (Int.ofNat n) where
 low c _:=by unfold QU;simp_all
 high n hn:=by rw[show aE (Int.ofNat hi) (Int.ofNat n)=true from mh (by grind)];simp_all
 none c hn:=YP (mh (by grind))
end Go.Ev
namespace Go.Ev
open Go Go.RowKit
section
variable{P:Program}{G:fz}{f:FuncId}
theorem JC{pl:Pl}{M:dN}{w:World}{h:AHeap}(hr:cS pl M h w){l:laj}{a:Addr}{n cap:Nat}(hv:VRel pl M (.ps (l.map nD) false) (.slice (some a) n cap))(hne:l≠[]):
  n=l.length/\n<=cap/\a=⟨a.block,a.off,none⟩/\a.block<w.heap.size/\∀(j:Nat)(x:ByteArray),(l.map λs=>(⟨⟨s⟩⟩:ByteArray))[j]?=some x->w.cell? ⟨a.block,a.off+j,none⟩=some (.string x):=by
 cases hv with
 | ps hl ht hm hs hc=>
  rename_i sz c;have hne':l.map nD≠[]:=by simp_all
  obtain⟨m1,m2,m3,m4⟩:=hm hne';obtain⟨t,fr,hb⟩:=hr.imm _ _ m2;have hsz:sz=1:=by
   cases l with
   |nil=>simp_all
   |cons s r=>exact((hs (nD s) (by simp)).1).symm
  subst hsz;refine⟨by simp,hl,by rw[<-m1],hr.memLt m2,λj x hj=>?_⟩;rw[qC]at hj;obtain⟨s,e1,rfl⟩:=GJ.1 hj;have hlt:j<l.length:=(fP.1 e1).1;have q:=hc j (nD s) 0 (.str s) (by simp_all) rfl;rw[Nat.mul_one,qK]at q;have hin:a.off+j<c.size:=by grind
  have e2:c[a.off+j]?=some (c.getD (a.off+j) undef):=by simp_all
  simp only[World.cell?,hb];simp only[Option.isSome_none,gr,if_false];rw[e2];cases hq:c.getD (a.off+j) undef<;>rw[hq]at q<;>cases q
  rfl
theorem PU(hE:∀vs w,(callFunc f vs).run P w=.ok (.enter f vs) w)
  (hC:∀(bk o c:Nat)(xs:List ByteArray)(sep:ByteArray)(w:World),(∀(j:Nat) x,xs[j]?=some x->w.cell? ⟨bk,o+j,none⟩=some (.string x))->bk<w.heap.size->xs.length<=140737488355328->xs.length<=c->
   (Lib.join (xs.map (·.data.toList)) sep.data.toList).length<=140737488355328->
   Calls P f #[.slice (some ⟨bk,o,none⟩) xs.length c,.string sep] w λe w'=>e=.returned (.string ⟨(Lib.join (xs.map (·.data.toList)) sep.data.toList).toArray⟩)/\Below w.heap.size w w')
  (hN:∀(a:lbf)(c:Nat)(sep:ByteArray)(w:World),Calls P f #[.slice a 0 c,.string sep] w λe w'=>e=.returned (.string ⟨#[]⟩)/\w'=w)
  (l:laj)(sep:bZ)(h1:l.length<=140737488355328)(h2:(Lib.join l sep).length<=140737488355328):aP P G f [.ls (l.map nD),.str sep] (.str (Lib.join l sep)):=by
 refine aP.below hE λpl M w vs h hG hr hv=>?_
 obtain⟨a,b,rfl,hv1,hv2⟩:=B0 hv;cases hv2
 have nil (p:lbf) (cap:Nat) (hl:l=[]):∃cv,VRel pl M (.str (Lib.join l sep)) cv/\Calls P f #[.slice p 0 cap,.string ⟨⟨sep⟩⟩] w λe w'=>e=.returned cv/\Below w.heap.size w w':=by
  subst hl;exact⟨.string ⟨⟨[]⟩⟩,.str _,Calls.mono (hN p cap ⟨⟨sep⟩⟩ w) λe w' ⟨he,hw⟩=>⟨he,hw▸Below.refl _ _⟩⟩
 generalize hx:l.map nD=xs at hv1;cases hv1 with
 |lsn=>simp_all
 | lsp hp ht=>
  subst hx;by_cases hl:l=[]
  ·subst hl;cases hp with
   |ps=>simp_all
  ·have hp':=hp;cases hp with
   |ps=>
    rename_i a cap sz c _ _ _ _ _;obtain⟨e1,e2,e3,e4,e5⟩:=JC hr hp' hl;have e6:(l.map λs=>(⟨⟨s⟩⟩:ByteArray)).map (·.data.toList)=l:=by rw[List.map_map];exact List.map_id l
    have:=hC a.block a.off cap (l.map λs=>⟨⟨s⟩⟩) ⟨⟨sep⟩⟩ w e5 e4 (by grind) (by grind) (by grind);rw[e6,<-e3,cw,<-e1]at this;exact⟨.string ⟨⟨Lib.join l sep⟩⟩,.str _,this⟩
theorem G0(hE:∀vs w,(callFunc f vs).run P w=.ok (.enter f vs) w)
  (hC:∀(s:ByteArray)(c:Nat)(w:World),c<=9223372036854775807->s.size*c<=140737488355328->Calls P f #[.string s,.int .i64 c] w λe w'=>e=.returned (.string ⟨(Lib.repeatL s.data.toList c).toArray⟩)/\Below w.heap.size w w')
  (s:bZ)(c:Nat)(h1:c<=9223372036854775807)(h2:s.length*c<=140737488355328):aP P G f [.str s,.int .i64 (.ofNat c)] (.str (Lib.repeatL s c)):=by
 refine aP.below hE λpl M w vs h hG hr hv=>?_
 obtain⟨a,b,rfl,hv1,hv2⟩:=B0 hv;cases hv1;cases hv2
 exact⟨.string ⟨⟨Lib.repeatL s c⟩⟩,.str _,hC ⟨⟨s⟩⟩ c w h1 h2⟩
theorem Oy(hE:∀vs w,(callFunc f vs).run P w=.ok (.enter f vs) w)
  (hC:∀(s cs:ByteArray)(w:World),s.size<=9223372036854775807->cs.size<4294967281->(∀(j:Nat) b,cs.data.toList[j]?=some b->b.toNat<128)->
   Calls P f #[.string s,.string cs] w λe w'=>e=.returned (.string ⟨(Lib.trimS s.data.toList cs.data.toList).toArray⟩)/\Below w.heap.size w w')
  (s cs:bZ)(h1:s.length<=9223372036854775807)(h2:cs.length<4294967281)(h3:∀b,b∈cs->b.toNat<128):aP P G f [.str s,.str cs] (.str (Lib.trimS s cs)):=by
 refine aP.below hE λpl M w vs h hG hr hv=>?_
 obtain⟨a,b,rfl,hv1,hv2⟩:=B0 hv;cases hv1;cases hv2
 exact⟨.string ⟨⟨Lib.trimS s cs⟩⟩,.str _,hC ⟨⟨s⟩⟩ ⟨⟨cs⟩⟩ w h1 h2 λj b hj=>h3 b (bC hj)⟩
end
structure PId where
 a:Int
 i:Int
 n:Int
 deriving Inhabited,DecidableEq
abbrev lam:=List PId
noncomputable def aK(p:PId):AV:=.agg [.int .i64 p.a,.int .i64 p.i,.int .i64 p.n]
theorem LQ(p:PId):(aK p).top=0:=rfl
def aF(u:TUnit):PId:=⟨u.act,u.item,u.n⟩
def ao(p q:PId):Bool:=ae p.a q.a&&(ae p.i q.i&&ae p.n q.n)
theorem pI{p q:PId}(h:ao p q=true):p=q:=by
 unfold ao at h;rw[ba,ba]at h;obtain⟨a,b,c⟩:=p;obtain⟨d,e,g⟩:=q;grind[jE]
theorem gi(p:PId):ao p p=true:=by simp[ao,be]
abbrev gQ(p:PId)(u:TUnit):Bool:=ao (aF u) p
theorem wE:KeyOf PId true 3 [(0,1),(1,1),(2,1)] aK ao where
 eq a b:=by
  show yg [.int .i64 a.a,.int .i64 a.i,.int .i64 a.n] [.int .i64 b.a,.int .i64 b.i,.int .i64 b.n] [(0,1),(1,1),(2,1)]=_
  simp only[yg,jI,Uw,K5,lX,ao];cases h1:ae a.a b.a<;>cases h2:ae a.i b.i<;>cases h3:ae a.n b.n<;>rfl
 t a b h:=pI h
 refl a:=gi a
 same a:=by simp[aK,lp,jT,kY,lX,be]
 top a:=rfl
mutual
def nU:TUnit->Nat
 |⟨_,_,_,_,_,_,_,ks⟩=>1+eB ks
def eB:lad->Nat
 |[]=>0
 |k::r=>nU k+eB r
end
mutual
def nF:TUnit->Nat
 |⟨_,_,_,_,_,_,_,ks⟩=>lW ks
def lW:lad->Nat
 |[]=>0
 |k::r=>Nat.max (1+nF k) (lW r)
end
mutual
def bV:TUnit->lad
 |⟨x1,x2,x3,x4,x5,x6,x7,ks⟩=>⟨x1,x2,x3,x4,x5,x6,x7,ks⟩::bx ks
def bx:lad->lad
 |[]=>[]
 |k::r=>bV k++bx r
end
mutual
def aL(p:PId):TUnit->lad
 |⟨x1,x2,x3,x4,x5,x6,x7,ks⟩=>bif gQ p ⟨x1,x2,x3,x4,x5,x6,x7,ks⟩then[⟨x1,x2,x3,x4,x5,x6,x7,ks⟩]else match ca p ks with
  |[]=>[]
  |y::t=>⟨x1,x2,x3,x4,x5,x6,x7,ks⟩::y::t
def ca(p:PId):lad->lad
 |[]=>[]
 |k::r=>match aL p k with
  |[]=>ca p r
  |y::t=>y::t
end
theorem jv(u:TUnit):nU u=1+eB u.kids:=by cases u;rw[nU];rfl
theorem mr:eB []=0:=by rw[eB]
theorem bD(k:TUnit)(r:lad):eB (k::r)=nU k+eB r:=by rw[eB]
theorem NM(u:TUnit):nF u=lW u.kids:=by cases u;rw[nF];rfl
theorem D9:lW []=0:=by rw[lW]
theorem LK(k:TUnit)(r:lad):lW (k::r)=Nat.max (1+nF k) (lW r):=by rw[lW]
theorem b8(u:TUnit):bV u=u::bx u.kids:=by cases u;rw[bV];rfl
theorem ef:bx []=[]:=by rw[bx]
theorem bz(k:TUnit)(r:lad):bx (k::r)=bV k++bx r:=by rw[bx]
def cG(u:TUnit):lam:=(bV u).map aF
def io(l:lad):lam:=(bx l).map aF
theorem mC(u:TUnit):cG u=aF u::io u.kids:=by unfold cG io;rw[b8];rfl
theorem sJ:io []=[]:=by unfold io;rw[ef];rfl
theorem fT(k:TUnit)(r:lad):io (k::r)=cG k++io r:=by grind[cG,io,bz]
theorem E6:∀{l:lad}{k:TUnit},k∈l->nU k<=eB l
 |x::r,k,h=>by
  rw[bD];rcases dO.1 h with rfl|h
  ·omega
  ·have:=E6 h;omega
theorem iI{u k:TUnit}(h:k∈u.kids):nU k<nU u:=by rw[jv u];have:=E6 h;omega
theorem KV(u:TUnit):0<nU u:=by grind[jv]
theorem yT:∀(l:lad),l.length<=eB l
 |[]=>by simp_all
 |k::r=>by
  rw[bD,dw];have:=yT r;grind[KV]
theorem bB(u:TUnit):u.kids.length<nU u:=by grind[jv,yT]
theorem OL{l:lad}(h:∀k,k∈l->(bV k).length=nU k):(bx l).length=eB l:=by
 induction l with
 |nil=>rw[ef,mr];rfl
 |cons k r ih=>grind[bz,bD]
theorem G6:∀(u:TUnit),(bV u).length=nU u:=TUnit.ind λu ih=>by grind[b8,jv,OL]
theorem vw(u:TUnit):(cG u).length=nU u:=by grind[cG,G6]
theorem TY{l:lad}{n:Nat}(h:∀k,k∈l->1+nF k<=n):lW l<=n:=by
 induction l with
 |nil=>grind[D9]
 |cons k r ih=>grind[LK]
theorem Fh:∀(u:TUnit),nF u<nU u:=TUnit.ind λu ih=>by
 have:lW u.kids<=eB u.kids:=TY λk hk=>by have:=ih k hk;have:=E6 hk;omega
 grind[NM,jv]
section
variable{p:PId}{u w:TUnit}{r:lad}
theorem f9(u:TUnit):aL p u=bif gQ p u then[u]else match ca p u.kids with|[]=>[]|y::t=>u::y::t:=by cases u;rw[aL];rfl
theorem kZ:ca p []=[]:=by rw[ca]
theorem px(k:TUnit)(r:lad):ca p (k::r)=match aL p k with|[]=>ca p r|y::t=>y::t:=by rw[ca]
def bG(p:PId)(u:TUnit):Bool:=ak (aL p u).isEmpty
theorem BW(h:bG p u=false):aL p u=[]:=by grind[bG]
theorem wH(h:bG p u=true):∃y t,aL p u=y::t:=by
 unfold bG at h;cases e:aL p u with
 |nil=>grind
 |cons x r=>simp_all
theorem jN(h:bG p u=true):aL p u≠[]:=by grind[wH]
theorem uy(h:gQ p u=true):aL p u=[u]:=by rw[f9,h];rfl
theorem Fx(h:gQ p u=true):bG p u=true:=by unfold bG;rw[uy h];rfl
theorem gF(h:bG p w=false):ca p (w::r)=ca p r:=by rw[px,BW h]
theorem m8(h:bG p w=true):ca p (w::r)=aL p w:=by grind[wH,px]
theorem Qh(h:gQ p u=false)(h2:ca p u.kids=ca p []):aL p u=[]:=by rw[f9,h,h2,kZ];rfl
theorem HN(h:gQ p u=false)(h2:ca p u.kids=ca p []):bG p u=false:=by unfold bG;rw[Qh h h2];rfl
theorem LO(h:gQ p u=false)(h2:ca p u.kids=ca p (w::r))(h3:bG p w=true):aL p u=u::aL p w:=by grind[f9,m8,wH]
theorem V5(h:gQ p u=false)(h2:ca p u.kids=ca p (w::r))(h3:bG p w=true):bG p u=true:=by unfold bG;rw[LO h h2 h3];rfl
end
theorem mn{p:PId}:∀(u:TUnit),(aL p u).length<=nU u:=TUnit.ind λu ih=>by
 rw[f9];cases gQ p u with
 |true=>exact KV u
 | false=>
  have key:∀(r:lad),(∀k,k∈r->k∈u.kids)->(ca p r).length<=eB r:=by
   intro r;induction r with
   |nil=>grind[kZ]
   |cons k r ihr=>grind[px,bD]
  grind[jv]
def bo:TUnit:=⟨0,0,0,0,[],[],[],[]⟩
noncomputable def cH(p:PId)(u:TUnit):TUnit:=bif bG p u then gD (aL p u) ((aL p u).length -1)else bo
theorem LR{p:PId}:∀(u:TUnit)(x:TUnit),x∈aL p u->x∈bV u:=TUnit.ind λu ih=>by
 intro x hx;rw[f9]at hx;rw[b8];cases h:gQ p u with
 |true=>simp_all
 | false=>
  rw[h]at hx;simp only[cond_false]at hx;have key:∀(r:lad),(∀k,k∈r->k∈u.kids)->∀x,x∈ca p r->x∈bx r:=by
   intro r;induction r with
   |nil=>grind[kZ]
   |cons k r ihr=>grind[px,bz]
  grind
noncomputable def qq(p:Int×bZ):AV:=.agg [.int .i64 p.1,.str p.2]
def np(a b:Int×bZ):Bool:=ae a.1 b.1&&ei a.2 b.2
theorem Bd:∀(s:bZ),ei s s=true
 |[]=>rfl
 |c::r=>by simp only[ei,Bd r,Bool.and_true];simp_all
theorem NH:∀{a b:bZ},ei a b=true->a=b
 |[],[],_=>rfl
 |c::r,d::q,h=>by
  simp only[ei,ba]at h;rw[NH h.2,UInt8.toNat_inj.1 (qW h.1)]
theorem Nf:KeyOf (Int×bZ) true 2 [(0,1),(1,2)] qq np where
 eq a b:=by
  show yg [.int .i64 a.1,.str a.2] [.int .i64 b.1,.str b.2] [(0,1),(1,2)]=_
  simp only[yg,jI,Uw,K5,lX,np];cases h1:ae a.1 b.1<;>cases h2:ei a.2 b.2<;>rfl
 t a b h:=by
  simp only[np,ba]at h;grind[jE,NH]
 refl a:=by simp[np,be,Bd]
 same a:=by simp[qq,lp,jT,kY,lX,be,Bd]
 top a:=rfl
noncomputable def dC(b:Bool):AV:=.bool b
theorem Bi(b:Bool):(dC b).top=0:=rfl
def qp{K:Type}(keq:K->K->Bool)(k:K)(l:List (K×Bool)):Bool:=(mE keq k l).getD false
section
variable{K:Type}{ag:Bool}{sz:Nat}{lv:List (Nat×Nat)}{kenc:K->AV}{keq:K->K->Bool}
theorem AF(hk:KeyOf K ag sz lv kenc keq)(m:List (K×Bool))(k:K):fW (some (.bool false)) false (bf ag sz lv (kenc k) (bq kenc dC m 0) 0)=some (.bool (qp keq k m)):=by
 rw[AL hk];unfold qp;cases mE keq k m with
 |none=>rfl
 |some v=>rfl
theorem Eo(hk:KeyOf K ag sz lv kenc keq)(m:List (K×Bool))(k:K):qL (bq kenc dC m 0) m.length (kenc k) (.bool true) (bf ag sz lv (kenc k) (bq kenc dC m 0) 0)=some (bq kenc dC (cQ keq k true m) 0,(cQ keq k true m).length):=C2 (f:=dC) hk k true m
end
def pq(l:lag):Bool:=ak (aE 256 (.ofNat l.length))&&rZ (l.map λw=>w.text)
def nh(pk:Int):lad->List ((Int×bZ)×Bool)->Bool
 |[],_=>true
 |k::r,m=>jd pk k.kind&&(ak (qp np (k.kind,k.label) m)&&nh pk r (cQ np (k.kind,k.label) true m))
def md(u:TUnit):Bool:=(bif ae u.kind 0 then ei u.label []&&ak (aE 0 (.ofNat (u.head.length+u.words.length)))else ak (ei (dc u.kind) [])&&(kB u.label&&(pq u.head&&pq u.words)))&&(nh u.kind u.kids []&&ak (aE 64 (.ofNat u.kids.length)))
def xX(q:TUnit->Bool)(u:TUnit):Bool:=(bV u).all q
theorem zz(q:TUnit->Bool)(u:TUnit):xX q u=(q u&&(bx u.kids).all q):=by grind[xX,b8]
theorem P4(q:TUnit->Bool):(bx []).all q=true:=by rw[ef];rfl
theorem CQ(q:TUnit->Bool)(k:TUnit)(r:lad):(bx (k::r)).all q=(xX q k&&(bx r).all q):=by rw[bz,List.all_append];rfl
def DQ(l:lam)(m:List (PId×Bool)):List (PId×Bool):=l.foldl (λm p=>cQ ao p true m) m
def cZ:PId:=⟨0,0,0⟩
def Sv(u:TUnit):Bool:=(qp ao cZ (DQ (cG u) [])&&ae (.ofNat (DQ (cG u) []).length) 1)||(ae (.ofNat (DQ (cG u) []).length) (.ofNat (cG u).length)&&(ae u.kind 0==gQ cZ u))
def lY(u:TUnit):Bool:=xX md u&&(ak (aE 8 (.ofNat (nF u)))&&(ak (aE 1024 (.ofNat (nU u)))&&Sv u))
theorem bi{u k:TUnit}(h:k∈u.kids){x:TUnit}(hx:x∈bV k):x∈bV u:=by
 rw[b8];refine di _ ?_;generalize u.kids=l at h;induction l with
 |nil=>grind
 |cons y r ih=>grind[bz]
theorem dU(u:TUnit):u∈bV u:=by grind[b8]
theorem Nc{u k:TUnit}(h:k∈u.kids):k∈bV u:=bi h (dU k)
end Go.Ev
namespace Go.Ev
open Go
def du{α:Type}(q:α->α->Bool):List α->List α->Bool
 |[],[]=>true
 |x::l,y::m=>q x y&&du q l m
 |_,_=>false
theorem o6{α:Type}{q:α->α->Bool}:∀{l m:List α},l.length≠m.length->du q l m=false
 |[],[],h=>absurd rfl h
 |[],y::m,_=>rfl
 |x::l,[],_=>rfl
 |x::l,y::m,h=>by
  unfold du;rw[o6 (l:=l) (m:=m) (λe=>h (by simp[e]))];exact qD _
section
variable{α:Type}[Inhabited α]{q:α->α->Bool}{l m x r:List α}{w:α}{j:Nat}
theorem zJ{m:List α}{j:Nat}(h:j<m.length):m.drop j=gD m j::m.drop (j+1):=by grind[List.drop_eq_getElem_cons,gD]
theorem lr(h1:l.drop j=x)(h2:x=w::r)(hl:l.length=m.length)(h3:du q l m=du q (w::r) (m.drop (l.length-(w::r).length))):du q l m=(q w (gD m j)&&du q r (m.drop (l.length-r.length))):=by
 have e:=congrArg List.length (h1.trans h2);simp only[zw,dw]at e;rw[h3,(o8 h1 h2).1,(o8 h1 h2).2,zJ (by omega),du]
omit [Inhabited α]in
theorem rh(hl:l.length=m.length)(h3:du q l m=du q [] (m.drop (l.length-([]:List α).length))):du q l m=true:=by rw[h3,hJ,Nat.sub_zero,hl,List.drop_length];rfl
end
def Qq(a b:PWord):Bool:=ei a.text b.text&&(ae a.act b.act&&(ae a.item b.item&&ae a.at_ b.at_))
mutual
def Pt:TUnit->TUnit->Bool
 |⟨a,i,n,k,l,h,w,ks⟩,v=>ao ⟨a,i,n⟩ (aF v)&&(ae k v.kind&&(ei l v.label&&(du Qq h v.head&&(du Qq w v.words&&Ps ks v.kids))))
def Ps:lad->lad->Bool
 |[],[]=>true
 |k::r,[]=>false
 |k::r,x::s=>Pt k x&&Ps r s
 |[],x::s=>false
end
theorem ZU(u v:TUnit):Pt u v=(ao (aF u) (aF v)&&(ae u.kind v.kind&&(ei u.label v.label&&(du Qq u.head v.head&&(du Qq u.words v.words&&du Pt u.kids v.kids))))):=by
 have key:∀(l m:lad),Ps l m=du Pt l m:=by
  intro l;induction l with
  |nil=>intro m;cases m<;>(rw[Ps];rfl)
  |cons x l ih=>intro m;cases m with|nil=>rw[Ps];rfl|cons y m=>rw[Ps,ih];rfl
 cases u
 rw[Pt,key];rfl
def Jd(u v:AV):Prop:=(Sc v->Sc u)/\Les u.cells v.cells
theorem Jd.refl(v:AV):Jd v v:=⟨id,Les.refl _⟩
theorem Jd.one{u v:AV}(hu:u.cells=[u])(hv:v.cells=[v])(hs:dq u=true)(h:Le u v):Jd u v:=⟨λ_ y hy=>by simp_all,by rw[hu,hv];exact .cons h .nil⟩
inductive LesC:laa->laa->Prop
 |nil:LesC [] []
 |cons {u v:AV} {us vs:laa} (h:Jd u v) (k:LesC us vs):LesC (u::us) (v::vs)
theorem LesC.len{us vs:laa}(h:LesC us vs):us.length=vs.length:=by
 induction h with
 |nil=>rfl
 |cons _ _ ih=>simp_all
theorem LesC.at_{us vs:laa}(h:LesC us vs):∀(j:Nat)(u:AV),us[j]?=some u->∃v,vs[j]?=some v/\Jd u v:=by
 induction h with
 |nil=>simp_all
 |cons h k ih=>grind
theorem F5{xs ys:laa}{t:Bool}(h:LesC xs ys):Le (.ps xs false) (.ps ys t):=λpl M v hv=>by
 cases hv with
 | @ps _ _ a cap sz c hl ht hm hs hc=>
  rw[<-h.len];refine .ps (sz:=sz) (c:=c) (by rw[h.len];omega) (λh=>by grind) (λhx=>?_) (λx hx=>?_) λi x j y hx hy=>?_
  ·have:ys≠[]:=λe=>hx (sB (by rw[h.len,e];rfl))
   rw[h.len];simp_all
  ·obtain⟨i,hi⟩:=CM hx;obtain⟨y,h1,h2,h3⟩:=h.at_ i x hi;have:=hs y (bC h1);exact⟨h3.len.trans this.1,h2 this.2⟩
  ·obtain⟨z,h1,_,h3⟩:=h.at_ i x hx;obtain⟨d,h4,h5⟩:=h3.at_ j y hy;exact h5 _ _ _ (hc i z j d h1 h4)
theorem ZO{xs ys:laa}{t:Bool}(h:LesC xs ys)(h0:az xs=0):Le (.ls xs) (.ps ys t):=λpl M v hv=>.lsp (F5 h pl M v hv) h0
theorem ZP{xs ys:laa}(h:LesC xs ys)(h0:az xs=0):Le (.ls xs) (.ls ys):=λpl M v hv=>by
 cases hv with
 |lsn=>cases h;exact .lsn
 |lsp hv _=>exact .lsp (F5 h pl M v hv) h0
theorem Le.pls{x:AV}{xs ys:laa}(h:LesC (x::xs) ys):Le (.ps (x::xs) false) (.ls ys):=λpl M v hv=>by
 cases hv with
 |lsn=>cases h
 |lsp hv _=>exact F5 h pl M v hv
mutual
def Cq:AV->AV->Bool
 | .ls xs,.nils=>xs.isEmpty
 | .ls xs,.ps ys _=>kS xs ys&&Nat.beq (az xs) 0
 | .ls xs,.ls ys=>kS xs ys&&Nat.beq (az xs) 0
 | .ps (x::xs) false,.ls ys=>kS (x::xs) ys
 | .ps xs false,.ps ys _=>kS xs ys
 | .agg us,.agg vs=>kS us vs&&us.all dq
 |u,v=>AV.same u v
def kS:laa->laa->Bool
 |[],[]=>true
 |a::us,b::vs=>Cq a b&&kS us vs
 |_,_=>false
end
theorem Jd.same{u v:AV}(h:AV.same u v=true):Le u v/\Jd u v:=by grind[AV.same_eq,Le.refl,Jd.refl]
mutual
theorem xJ:∀(u v:AV),Cq u v=true->Le u v/\Jd u v:=λu v h=>by
 unfold Cq at h;split at h
 ·rename_i xs;have e:xs=[]:=by simp_all
  subst e;exact⟨Le.nils,Jd.one rfl rfl rfl Le.nils⟩
 ·rename_i xs ys t;have h:=jj.1 h;have k:=ZO (t:=t) (j9 xs ys h.1).2 (qW h.2);exact⟨k,Jd.one rfl rfl rfl k⟩
 ·rename_i xs ys;have h:=jj.1 h;have k:=ZP (j9 xs ys h.1).2 (qW h.2);exact⟨k,Jd.one rfl rfl rfl k⟩
 ·rename_i x xs ys;have k:=Le.pls (j9 (x::xs) ys h).2;exact⟨k,Jd.one rfl rfl rfl k⟩
 ·rename_i xs ys t;have k:=F5 (t:=t) (j9 xs ys h).2;exact⟨k,Jd.one rfl rfl rfl k⟩
 ·rename_i us vs;have h:=jj.1 h;have k:=j9 us vs h.1;exact⟨bJ k.1 h.2,λ_ y hy=>mf.1 h.2 y hy,k.1⟩
 ·exact Jd.same h
theorem j9:∀(us vs:laa),kS us vs=true->Les us vs/\LesC us vs:=λus vs h=>by
 unfold kS at h;split at h
 ·exact⟨.nil,.nil⟩
 ·rename_i a us b vs;have h:=jj.1 h;have h1:=xJ a b h.1;have h2:=j9 us vs h.2;exact⟨.cons h1.1 h2.1,.cons h1.2 h2.2⟩
 ·grind
end
section
variable{P:Program}{G:fz}{f:FuncId}{a b:laa}{u v:AV}
theorem aP.args(h:aP P G f a v)(hl:Les a b):aP P G f b v:=λhp pl M w vs hg hr hv=>h hp pl M w vs hg hr (hv.le hl)
theorem aP.lessB(h:aP P G f a v)(hl:Cq u v=true):aP P G f a u:=h.less (xJ _ _ hl).1
theorem Yl(a b:Nat):Dg (.ofNat a) (.ofNat b)=.ofNat (Nat.max a b):=by
 unfold Dg;cases h:aE (.ofNat a) (.ofNat b)with
 |true=>
  have h:=ap h;grind
 |false=>
  have h:=aI h;simp_all
theorem qU{xs ys:laa}{i t:Nat}{r:List (Nat×Nat)}{x y:AV}{e c:Bool}(hx:jI xs i=some x)(hy:jI ys i=some y)(h:K5 t x y=some e)(k:yg xs ys r=some c):yg xs ys ((i,t)::r)=some (e&&c):=by
 simp only[yg,hx,hy,Uw,h];cases e with
 |true=>exact k
 |false=>rfl
theorem DO{xs ys:laa}{i t:Nat}{r:List (Nat×Nat)}{x y:AV}{e:Bool}(hx:jI xs i=some x)(hy:jI ys i=some y)(h:K5 t x y=some e)(k:yg xs ys r=some true):yg xs ys ((i,t)::r)=some e:=by
 simp only[yg,hx,hy,Uw,h];cases e with
 |true=>exact k
 |false=>rfl
theorem FO{d:Option TypeDesc}{n:Nat}{l:List (Nat×Nat)}{xs ys:laa}{c:Bool}{H:AHeap}(hn:(Nat.beq xs.length n&&Nat.beq ys.length n)=true)(hl:yg xs ys l=some c):
  bp H (Uf (qm .eql d (some true) (some n) (some l)) (some (.agg xs)) (some (.agg ys)))=some (.val (.bool c) H):=by
 grind[Uf,qm,Zz,ph,bp]
theorem FN{d:Option TypeDesc}{n:Nat}{l:List (Nat×Nat)}{xs ys:laa}{c:Bool}{H:AHeap}(hn:(Nat.beq xs.length n&&Nat.beq ys.length n)=true)(hl:yg xs ys l=some c):
  bp H (Uf (qm .neq d (some true) (some n) (some l)) (some (.agg xs)) (some (.agg ys)))=some (.val (.bool (!c)) H):=by
 grind[Uf,qm,Zz,ph,bp]
def rk:List (FuncId×laa×AV)->abU
 |[],_,_,_=>none
 |x::r,g,b,h=>match Nat.beq g x.1 with
  |true=>(match kS x.2.1 b with|true=>some (x.2.2,h)|false=>rk r g b h)
  |false=>rk r g b h
theorem BQ:∀{L:List (FuncId×laa×AV)}{g:FuncId}{h h1:AHeap}{v1:AV},rk L g b h=some (v1,h1)->∃x,x∈L/\g=x.1/\kS x.2.1 b=true/\v1=x.2.2/\h1=h
 |[],_,_,_,_,e=>by grind[rk]
 | x::r,g,h,h1,v1,e=>by
  unfold rk at e;have next:rk r g b h=some (v1,h1)->∃y,y∈x::r/\g=y.1/\kS y.2.1 b=true/\v1=y.2.2/\h1=h:=λe=>
   let⟨y,k,q⟩:=BQ e
   ⟨y,di _ k,q⟩
  grind[Nat.eq_of_beq_eq_true]
theorem vv{C:Cfg}{L:List (FuncId×laa×AV)}(hC:C.hook=rk L)(hL:∀x,x∈L->aP C.P C.G x.1 x.2.1 x.2.2):Lu C:=λg b hp v1 h1 e pl M w vs hg hr hv=>by
 rw[hC]at e;obtain⟨x,hx,rfl,hl,rfl,rfl⟩:=BQ e;rcases hL x hx h1 pl M w vs hg hr (hv.le (j9 _ _ hl).1)with⟨k1,k2⟩|⟨cv,w',v2,h2,k1,⟨rfl,rfl⟩,k3⟩
 ·refine .inl ⟨k1,λcs=>?_⟩;obtain⟨en,w',fr,⟨cv,v2,h2,e1,⟨rfl,rfl⟩,k3⟩,r⟩:=k2 cs;grind
 ·exact .inr ⟨cv,w',k1,k3⟩
def aai(v:AV):Option (AV×AHeap)->Bool
 |some (u,_)=>Cq v u&&Nat.beq u.top 0
 |none=>false
theorem aP.closed{C:Cfg}{k:Nat}(hG:jK C.G)(ev:cW C.P C.G (fF C k))(ht:az a=0)(h:aai v (fF C k f a AHeap.none)=true):aP C.P C.G f a v:=by
 cases hx:fF C k f a AHeap.none with
 |none=>rw[hx]at h;cases h
 |some r=>
  obtain⟨u,h1⟩:=r;rw[hx]at h;have h:=jj.1 h;exact(lg hG ht (qW h.2) ((aO.of ev hx).mono λv1 _ e=>e.1)).lessB h.1
end
end Go.Ev
namespace Go.Ev
open Go
theorem aP.ls0{P:Program}{G:fz}{f:FuncId}{r:laa}{v:AV}(h1:aP P G f (.nils::r) v)(h2:aP P G f (.ps [] false::r) v):aP P G f (.ls []::r) v:=λh=>F8 (λ_ _ _ hv=>VRels.first hv λ_ hv=>hv.ls0) (h1 h) (h2 h)
theorem SL{p:PId}{u:TUnit}(h:bG p u=true):cH p u∈aL p u:=by
 unfold cH;rw[h];have:=qB.2 (jN h);grind[eP]
theorem T8:∀(u:TUnit),nL u=(bV u).flatMap nT:=by
 refine TUnit.ind λu ih=>?_
 rw[OX,b8,CD];congr 1;have key:∀(l:lad),(∀k,k∈l->k∈u.kids)->lJ l=(bx l).flatMap nT:=by
  intro l;induction l with
  |nil=>intro _;rw[Ee,ef];rfl
  |cons k r ihr=>grind[uY,bz]
 simp_all
theorem Qi{p:PId}:∀(u:TUnit),bG p u=true->aF (cH p u)=p:=by
 refine TUnit.ind λu ih h=>?_
 unfold cH;rw[h];simp only[cond_true];cases hh:gQ p u with
 |true=>rw[uy hh];exact pI hh
 | false=>
  have key:∀(r:lad),(∀k,k∈r->k∈u.kids)->ca p r≠[]->aF (gD (ca p r) ((ca p r).length -1))=p:=by
   intro r;induction r with
   |nil=>grind[kZ]
   |cons k r ihr=>grind[m8,cH,gF]
  have k2:=key u.kids λ_ h=>h
  obtain⟨y,t,e⟩:=wH h;rw[f9,hh]at e ⊢;grind[gD]
theorem mD{p:PId}:∀(u:TUnit),(∃x,x∈bV u/\aF x=p)->bG p u=true:=by
 refine TUnit.ind λu ih ⟨x,hx,hp⟩=>?_
 cases hh:gQ p u with
 |true=>grind[Fx]
 | false=>
  rw[b8]at hx;rcases dO.1 hx with rfl|hx
  ·simp_all[gQ,gi]
  ·have key:∀(l:lad),(∀k,k∈l->k∈u.kids)->x∈bx l->ca p l≠[]:=by
    intro l;induction l with
    |nil=>grind[ef]
    |cons k r ihr=>grind[bz,bG,m8,gF]
   grind[bG,f9]
theorem De{α β:Type}{f:α->β}:∀{l:List α},(l.map f).Nodup->∀{x y:α},x∈l->y∈l->f x=f y->x=y
 | a::l,h,x,y,hx,hy,e=>by
  rw[eT,List.nodup_cons]at h;rcases dO.1 hx with h1|h1
  ·grind
  ·rcases dO.1 hy with h2|h2
   ·simp_all
   ·exact De h.2 h1 h2 e
theorem DT{K V:Type}{kenc:K->AV}{f:V->AV}:∀(l:List (K×V))(i:Nat),(bq kenc f l i).length=l.length
 |[],_=>rfl
 |(k,v)::r,i=>by rw[bq,dw,DT r,dw]
theorem Om(m:List (PId×Bool)):DQ [] m=m:=rfl
theorem S8{n:Nat}(h:0<n):ae (Int.ofNat n) 0=false:=by grind[sU]
def DL(p:PId):TUnit->Option TUnit:=λu=>(bV u).find? (gQ p)
theorem Ub{p:PId}:∀(u:TUnit),(bG p u=true->DL p u=some (cH p u))/\(bG p u=false->DL p u=none):=by
 refine TUnit.ind λu ih=>?_
 unfold DL;rw[b8];cases hh:gQ p u with
 |true=>
  rw[List.find?_cons_of_pos (by omega)];refine⟨λh=>?_,λh=>by grind[Fx]⟩;unfold cH;rw[h,uy hh];rfl
 | false=>
  rw[List.find?_cons_of_neg (by simp_all)];have key:∀(r:lad),(∀k,k∈r->k∈u.kids)->(ca p r≠[]->(bx r).find? (gQ p)=some (gD (ca p r) ((ca p r).length -1)))/\(ca p r=[]->(bx r).find? (gQ p)=none):=by
   intro r;induction r with
   |nil=>grind[kZ,ef]
   |cons k r ihr=>
    intro hm;have ik:=ih k (hm k (dr ..));have ir:=ihr λz hz=>hm z (di _ hz)
    rw[bz,List.find?_append];cases hk:bG p k with
    |true=>grind[DL,m8,jN,cH]
    |false=>grind[DL,gF]
  have k2:=key u.kids λ_ h=>h
  refine⟨λh=>?_,λh=>?_⟩
  ·obtain⟨y,t,e⟩:=wH h;unfold cH;rw[h,f9,hh];rw[f9,hh]at e;grind[gD]
  ·have e:=BW h;grind[f9]
theorem fS(p:PId)(u:TUnit):gQ p u=true↔aF u=p:=⟨pI,λh=>by simp_all[gQ,gi]⟩
theorem J5{y x:TUnit}:∀(u:TUnit),y∈bV u->x∈bV y->x∈bV u:=by
 refine TUnit.ind λu ih h hx=>?_
 rw[b8]at h ⊢;rcases dO.1 h with rfl|h
 ·grind[b8]
 ·refine di _ ?_;have key:∀(l:lad),(∀k,k∈l->k∈u.kids)->y∈bx l->x∈bx l:=by
   intro l;induction l with
   |nil=>grind[ef]
   |cons k r ihr=>grind[bz]
  simp_all
theorem dD{y x u:TUnit}(h:y∈bV u)(hx:x∈bV y):x∈bV u:=J5 u h hx
theorem RJ{x:TUnit}:∀(u:TUnit),x∈bV u->nU x<=nU u:=by
 refine TUnit.ind λu ih h=>?_
 rw[b8]at h;rcases dO.1 h with rfl|h
 ·omega
 ·have key:∀(l:lad),(∀k,k∈l->k∈u.kids)->x∈bx l->nU x<nU u:=by
   intro l;induction l with
   |nil=>grind[ef]
   |cons k r ihr=>grind[bz,Nat.lt_of_le_of_lt,iI]
  grind
theorem dT{x u:TUnit}(h:x∈bV u):nU x<=nU u:=RJ u h
section
variable{p:PId}{u w:TUnit}{r:lad}
end
def kG(a b:PStep):Bool:=ae a.kind b.kind&&ei a.label b.label
mutual
def Fb:PItem->PItem->Bool
 |⟨k,a,t,w,n,u,o,ne,l,f,s,ac,im,d,e,bs⟩,v=>
  (ae k v.kind&&(ae w v.where_&&(ae n v.nth_&&(ae ac v.act&&(ae im v.item&&ae d v.day)))))
  &&((ei l v.label&&(ei f v.for_&&(ei e v.event&&(ae s.kind v.start.kind&&(ae s.day v.start.day&&ei s.event v.start.event)))))
  &&((du kG a v.at_&&(du kG t v.to&&(du ei o v.old&&du ei ne v.new)))
  &&(Pt u v.unit&&DP bs v.by_)))
def DP:lat->lat->Bool
 |[],[]=>true
 |k::r,[]=>false
 |k::r,x::s=>Fb k x&&DP r s
 |[],x::s=>false
end
theorem S7:∀(l m:lat),DP l m=du Fb l m:=by
 intro l;induction l with
 |nil=>intro m;cases m<;>(rw[DP];rfl)
 |cons x l ih=>intro m;cases m with|nil=>rw[DP];rfl|cons y m=>rw[DP,ih];rfl
theorem Wa(u v:PItem):Fb u v=((ae u.kind v.kind&&(ae u.where_ v.where_&&(ae u.nth_ v.nth_&&(ae u.act v.act&&(ae u.item v.item&&ae u.day v.day)))))
  &&((ei u.label v.label&&(ei u.for_ v.for_&&(ei u.event v.event&&(ae u.start.kind v.start.kind&&(ae u.start.day v.start.day&&ei u.start.event v.start.event)))))
  &&((du kG u.at_ v.at_&&(du kG u.to v.to&&(du ei u.old v.old&&du ei u.new v.new)))
  &&(Pt u.unit v.unit&&du Fb u.by_ v.by_)))):=by
 cases u
 rw[Fb,S7];rfl
noncomputable def E5(s:bZ):Bool:=ak (aE (.ofNat s.length) 1)&&(ak (aE 16 (.ofNat s.length))&&(ak (aE (.ofNat (gD s 0).toNat) 97)&&(ak (aE 122 (.ofNat (gD s 0).toNat))&&ei (Lib.trimS s [97,98,99,100,101,102,103,104,105,106,107,108,109,110,111,112,113,114,115,116,117,118,119,120,121,122,48,49,50,51,52,53,54,55,56,57,45]) [])))
def sa(n:Bool)(s:PStart):Bool:=bif ae s.kind 0||ae s.kind 2 then ae s.day 0&&ei s.event []else bif ae s.kind 1 then(ak (aE s.day 0)&&ak (aE 1048576 s.day))&&ei s.event []else bif ae s.kind 3 then ae s.day 0&&n else false
def bO(s:PStep)(u:TUnit):Bool:=ae u.kind s.kind&&ei u.label s.label
def gG:lap->lad->lad
 |[],l=>l
 |s::r,l=>gG r (l.flatMap λx=>x.kids.filter (bO s))
def ed(u:TUnit)(p:lap):lad:=bif lK p then(match p with
 |[]=>[u]
 |s::r=>gG r (bif nN s then[u]else(bV u).filter (bO s)))else[]
noncomputable def aC(u:TUnit)(p:lap):PId×Int:=match ed u p with
 |[]=>(cZ,7)
 |[x]=>(aF x,0)
 |_=>(cZ,8)
def jg(p:PId)(u:TUnit):Bool:=ak (aE (.ofNat (aL p u).length) 2)
noncomputable def Jr(p:PId)(u:TUnit):TUnit:=gD (aL p u) ((aL p u).length -2)
noncomputable def si(p:PId)(u:TUnit):PId:=bif jg p u then aF (Jr p u)else cZ
noncomputable def rJ(p:PId)(u:TUnit):Int:=bif jg p u then cN (bG p) (Jr p u).kids 0 else -1
def mH(p:PId)(u:TUnit):lam:=(((aL p u).take ((aL p u).length -1)).map aF).reverse
structure PSpot where
 id:PId
 at_:Int
 deriving Inhabited
noncomputable def fG(s:PSpot):AV:=.agg [.int .i64 s.id.a,.int .i64 s.id.i,.int .i64 s.id.n,.int .i64 s.at_]
def eJ:PSpot:=⟨cZ,0⟩
noncomputable def kO(u:TUnit)(p:PId)(n:Int):PSpot×Int:=bif jg p u then(⟨si p u,rJ p u+n⟩,0)else(eJ,9)
noncomputable def cD(w:Int)(u:TUnit)(p:PId):PSpot×Int:=bif ae w 0 then(⟨p,0⟩,0)else bif ae w 1 then(⟨p,.ofNat (cH p u).kids.length⟩,0)else bif ae w 2 then kO u p 1 else kO u p 0
def iS(n:Int):Bool:=ak (aE n 0)&&ak (aE 3 n)
def c9(act item:Int):laj->Nat->lag
 |[],_=>[]
 |s::r,n=>⟨s,act,item,.ofNat n⟩::c9 act item r (n+1)
def cK(l:lag):laj:=l.map λw=>w.text
theorem gz(a i:Int):∀(l:laj)(n:Nat),(c9 a i l n).length=l.length
 |[],_=>rfl
 |s::r,n=>by rw[c9,dw,gz a i r,dw]
mutual
def cP(a i:Int):TUnit->Nat->Nat->TUnit
 |⟨_,_,_,k,l,h,ws,ks⟩,n,w=>⟨a,i,.ofNat (n+1),k,l,c9 a i (cK h) w,c9 a i (cK ws) (w+h.length),ft a i ks (n+1) (w+h.length+ws.length)⟩
def ft(a i:Int):lad->Nat->Nat->lad
 |[],_,_=>[]
 |k::r,n,w=>cP a i k n w::ft a i r (n+nU k) (w+(nL k).length)
end
theorem C8(a i:Int)(u:TUnit)(n w:Nat):cP a i u n w=⟨a,i,.ofNat (n+1),u.kind,u.label,c9 a i (cK u.head) w,c9 a i (cK u.words) (w+u.head.length),ft a i u.kids (n+1) (w+u.head.length+u.words.length)⟩:=by cases u;rw[cP];rfl
theorem Gr(a i:Int)(n w:Nat):ft a i [] n w=[]:=by rw[ft]
theorem Et(a i:Int)(k:TUnit)(r:lad)(n w:Nat):ft a i (k::r) n w=cP a i k n w::ft a i r (n+nU k) (w+(nL k).length):=by rw[ft]
def wg(part:laj):Nat->laj->Nat->laf
 |0,_,_=>[]
 |f+1,l,i=>bif Nat.ble (i+part.length) l.length then(bif du ei ((l.drop i).take part.length) part then i::wg part f l (i+part.length)else wg part f l (i+1))else[]
def uS(l part:laj):laf:=bif part.isEmpty then[]else wg part (l.length+1) l 0
def pp(w:PWord):Bool:=ak (ae w.act 0&&(ae w.item 0&&ae w.at_ 0))
def Ea(x:TUnit):Bool:=gQ cZ x&&(ak (x.head.any pp)&&ak (x.words.any pp))
def I9(u:TUnit):Bool:=lY u&&xX Ea u
def iU(w:PWord):PWord:=⟨w.text,0,0,0⟩
mutual
def dY:TUnit->TUnit
 |⟨_,_,_,k,l,h,w,ks⟩=>⟨0,0,0,k,l,h.map iU,w.map iU,ue ks⟩
def ue:lad->lad
 |[]=>[]
 |k::r=>dY k::ue r
end
theorem zE:∀(l:lad),ue l=l.map dY
 |[]=>by rw[ue];rfl
 |k::r=>by rw[ue,zE r];rfl
theorem mI(u:TUnit):dY u=⟨0,0,0,u.kind,u.label,u.head.map iU,u.words.map iU,u.kids.map dY⟩:=by cases u;rw[dY,zE];rfl
theorem Sb{p:PId}{u:TUnit}(h:bG p u=false):jg p u=false:=by unfold jg;rw[BW h];rfl
theorem Yv{p:PId}{u:TUnit}(h:jg p u=false):si p u=cZ:=by unfold si;simp_all
theorem Rx{p:PId}{u:TUnit}(h:jg p u=false):rJ p u= -1:=by unfold rJ;simp_all
theorem J6{p:PId}{u:TUnit}(h:jg p u=true):si p u=aF (Jr p u):=by unfold si;simp_all
theorem J7{p:PId}{u:TUnit}(h:jg p u=true):rJ p u=cN (bG p) (Jr p u).kids 0:=by unfold rJ;simp_all
def pZ(p:PId)(u:TUnit)(k:Nat):lam:=((((aL p u).take ((aL p u).length -1)).drop k).map aF).reverse
theorem FM(p:PId)(u:TUnit):pZ p u 0=mH p u:=rfl
theorem Ed(p:PId)(u:TUnit):pZ p u ((aL p u).length -1)=[]:=by
 unfold pZ;simp_all
theorem B9(p:PId)(u:TUnit){k:Nat}(h:k+1<(aL p u).length):pZ p u k=pZ p u (k+1)++[aF (gD (aL p u) k)]:=by
 unfold pZ;have h1:k<((aL p u).take ((aL p u).length -1)).length:=by grind
 rw[Qx h1,eT,List.reverse_cons];grind[gD]
theorem Ec(p:PId)(u:TUnit)(k:Nat):(pZ p u k).length<=(aL p u).length:=by grind[pZ]
def lH(s:PStep)(u:TUnit):lad:=(bV u).filter (bO s)
def dA(s:PStep)(l:lad):lad:=(bx l).filter (bO s)
theorem Aa(s:PStep)(u:TUnit):lH s u=(bif bO s u then[u]else[])++dA s u.kids:=by
 unfold lH dA;rw[b8,List.filter_cons];grind
theorem nw(s:PStep):dA s []=[]:=by unfold dA;rw[ef];rfl
theorem iW(s:PStep)(k:TUnit)(r:lad):dA s (k::r)=lH s k++dA s r:=by grind[lH,dA,bz]
theorem mM(s:PStep)(u:TUnit):(lH s u).length<=nU u:=by grind[lH,G6]
theorem tC:∀(l m:lad),eB (l++m)=eB l+eB m
 |[],m=>by rw[mr,xj,fx]
 |x::r,m=>by rw[zh,bD,bD,tC r m,Nat.add_assoc]
theorem As(q:TUnit->Bool):∀(l:lad),eB (l.filter q)<=eB l
 |[]=>by simp_all
 |x::r=>by
  rw[List.filter_cons,bD];have:=As q r;cases q x with
  |true=>rw[if_pos rfl,bD];omega
  |false=>grind
theorem Ar(q:TUnit->Bool):∀(l:lad),eB (l.flatMap λx=>x.kids.filter q)<=eB l
 |[]=>by simp_all
 |x::r=>by
  rw[CD,tC,bD];have:=Ar q r;grind[As,jv]
theorem NW{n:Nat}:∀(l:lad),(∀x,x∈l->nU x<=n)->eB l<=n*l.length
 |[],_=>by simp_all[mr]
 |x::r,h=>by
  rw[bD,dw,Nat.mul_add,Nat.mul_one];have:=h x (dr ..);have:=NW r λy hy=>h y (di _ hy)
  omega
theorem Hw(s:PStep)(u:TUnit)(hp:∀x,x∈bV u->nU x<=nU u):eB (lH s u)<=nU u*nU u:=by
 have h1:=NW (n:=nU u) (lH s u) λx hx=>hp x (xV.1 hx).1
 exact b0 h1 (Nat.mul_le_mul_left _ (mM s u))
theorem JD(l:lad):gG [] l=l:=rfl
theorem KL{u:TUnit}{p:lap}(h:lK p=false):ed u p=[]:=by unfold ed;simp_all
theorem H3{u:TUnit}(h:lK []=true):ed u []=[u]:=by unfold ed;simp_all
theorem H4{u:TUnit}{s:PStep}{r:lap}(h:lK (s::r)=true)(hb:nN s=true):ed u (s::r)=gG r [u]:=by
 unfold ed;simp_all
theorem xN{u:TUnit}{s:PStep}{r:lap}(h:lK (s::r)=true)(hb:nN s=false):ed u (s::r)=gG r (lH s u):=by
 unfold ed;rw[h];show gG r (bif nN s then[u]else(bV u).filter (bO s))=_
 rw[hb];rfl
def cR(s:PStep)(l:lad):lad:=l.flatMap λx=>x.kids.filter (bO s)
section
variable{s:PStep}{l m r r1 X:lad}{w w1:TUnit}{n N:Nat}{rs0:lap}{R at0:lad}
theorem Km:cR s []=[]:=rfl
theorem xG:cR s (w::r)=w.kids.filter (bO s)++cR s r:=by grind[cR]
theorem JE(rs:lap):gG (s::rs) l=gG rs (cR s l):=rfl
theorem Hv:eB (cR s l)<=eB l:=Ar _ l
theorem fA(h:R=gG (s::rs0) l/\eB l<=N)(e:cR s []=cR s l):R=gG rs0 []/\eB []<=N:=⟨by rw[h.1,JE,<-e];rfl,by simp_all[mr]⟩
theorem fB(h:R=gG (s::rs0) l/\eB l<=N)(e:m++cR s []=cR s l):R=gG rs0 m/\eB m<=N:=by grind[Km,JE,Hv]
theorem gA(h:cR s (w1::r1)=X):w1.kids.filter (bO s)++cR s r1=X:=xG.symm.trans h
theorem gB(h:n=m.length/\m++cR s (w1::r1)=X/\m.length+eB (w1::r1)<N):n=m.length/\m++(w1.kids.filter (bO s)++cR s r1)=X/\m.length+(eB w1.kids+eB r1)<N:=⟨h.1,xG (s:=s)▸h.2.1,by grind[bD,jv]⟩
theorem hA0(h:(w::r).filter (bO s)++cR s r1=X)(q:bO s w=false):r.filter (bO s)++cR s r1=X:=by simp_all
theorem hB0(h:n=m.length/\m++((w::r).filter (bO s)++cR s r1)=X/\m.length+(eB (w::r)+eB r1)<N)(q:bO s w=false):n=m.length/\m++(r.filter (bO s)++cR s r1)=X/\m.length+(eB r+eB r1)<N:=⟨h.1,by simp_all,by grind[bD]⟩
theorem hB1(h:n=m.length/\m++((w::r).filter (bO s)++cR s r1)=X/\m.length+(eB (w::r)+eB r1)<N)(q:bO s w=true):n+1=(m++[w]).length/\(m++[w])++(r.filter (bO s)++cR s r1)=X/\(m++[w]).length+(eB r+eB r1)<N:=⟨by simp_all,by simp_all,by grind[KV,bD]⟩
end
section
variable{p:PId}{u:TUnit}{i:Int}{l:lam}
theorem P2(hn:i=Int.ofNat (aL p u).length -2)(h0:aE i 0=false):[aF (gD (aL p u) i.toNat)]=pZ p u (i-1+1).toNat:=by
 have h0:=aI h0;simp only[aT]at hn;have e:(i-1+1).toNat=i.toNat:=by omega
 rw[e,B9 p u (k:=i.toNat) (by omega),show i.toNat+1=(aL p u).length -1 by omega,Ed,xj]
theorem JK(h:l=pZ p u (i+1).toNat)(hi:i+2<=(aL p u).length)(h0:aE i 0=false):l++[aF (gD (aL p u) i.toNat)]=pZ p u (i-1+1).toNat:=by
 have h0:=aI h0;grind[B9]
theorem T4(h:l=pZ p u (i+1).toNat)(hi: -1<=i)(h0:aE i 0=true):l=mH p u:=by
 have h0:=ap h0;rw[h,show(i+1).toNat=0 by omega,FM]
theorem T3(hn:i=Int.ofNat (aL p u).length -2)(h0:aE i 0=true):mH p u=[]:=by
 have h0:=ap h0;simp only[aT]at hn;rw[<-FM];have:(aL p u).length -1=0:=by omega
 grind[Ed]
end
theorem MH{s:PStep}{l m:lad}(h:dA s l=m)(hm:m≠[]):l≠[]:=by grind[nw]
theorem YZ(l:lad){z:AV}(hz:z.top=0):az (l.map aU++[z])=0:=ke.2 λx hx=>by grind[gO]
theorem pc{l x r:lad}{w:TUnit}{j:Nat}(h1:l.drop j=x)(h2:x=w::r):nU w+eB r<=eB l:=by
 have e:l=l.take j++(w::r):=by grind[List.take_append_drop]
 grind[tC,bD]
end Go.Ev
namespace Go.Ev
open Go
def rQ(l:laj)(n:Int):Bool:=rZ l&&ak (aE (.ofNat l.length) n)
def Cm(n:Int):Bool:=ak (aE n 0)&&ak (aE 256 n)
theorem KI{u:TUnit}(p:lap)(h:nU u<=2^11):(ed u p).length<=2^22:=by
 have key:∀(rs:lap)(l:lad),eB (gG rs l)<=eB l:=by
  intro rs;induction rs with
  |nil=>intro l;exact ar _
  |cons s r ih=>grind[JE,Hv]
 unfold ed;cases lK p with
 |false=>simp_all
 | true=>
  simp only[cond_true];cases p with
  |nil=>simp_all
  | cons s r=>
   simp only[];refine b0 (yT _) (b0 (key r _) ?_);cases nN s with
   |true=>grind[bD,mr]
   |false=>
    simp only[cond_false];have h1:=Hw s u λx hx=>dT hx
    have h2:nU u*nU u<=2^11*2^11:=Nat.mul_le_mul h h;exact b0 h1 h2
theorem IX{u:TUnit}{p:lap}(h:ed u p=[]):aC u p=(cZ,7):=by grind[aC]
theorem IZ{u x:TUnit}{p:lap}(h:ed u p=[x]):aC u p=(aF x,0):=by grind[aC]
theorem IQ{u x y:TUnit}{r:lad}{p:lap}(h:ed u p=x::y::r):aC u p=(cZ,8):=by grind[aC]
def yY(own:PId)(i:Int)(ok:Bool)(n:Int):PSpot×Int:=bif ok then(⟨own,i+n⟩,0)else(eJ,9)
def DV(e:Int)(sp:PSpot)(e2:Int):PSpot×Int:=bif ae e 0 then(bif ae e2 0 then(sp,0)else(eJ,e2))else(eJ,e)
def nO(p q own:PId)(at_:Int)(ok c bs:Bool)(sp:PSpot)(e:Int):PSpot×Int:=
 bif ak ok||((ak (ao q p)&&c)||(ao q p&&ak bs))then(eJ,9)
 else bif ao q p then(⟨own,at_⟩,0)
 else bif ae e 0&&(ao sp.id own&&aE at_ sp.at_)then(⟨sp.id,sp.at_-1⟩,e)else(sp,e)
end Go.Ev
