/- An abstract machine for runs of the program, proved sound against the model: part 6. No conditions. -/
import Derived.Test.YtempcdhknnjebaaGreatDoorMach5
import Derived.Shelf.SortM.Plain
import Derived.Shelf.SortM.SortNone
import Derived.Shelf.SlSortCmp.NoneTotal
import Derived.Shelf.SlicesG.CompactI
import Derived.Lib.QuietBelow
import GoSem.ClaimJoined
import Derived.Calls
import Derived.RunT
import Derived.Below
import Derived.Shelf.Strings.FuncGrows
import Derived.Laws.RangeAny
import Derived.Lib.Join
import Derived.Lib.Repeat
import Derived.Lib.SlTrimSet
namespace Go.Ev
open Go Go.Sort Go.Proofs
section
variable {P : Program} {G : ei} {pl : Pl} {M : di} {h : AHeap} {w w' : World}
theorem sl (hr:cD pl M h w) {id:Nat} {p:Place} {sz:Nat} {op:Bool} {ep:Nat} {xs xs':List AV} {c c':Array Value} {t:TypeId} (hp:pl id=some p) (hg:h.get id=some (.row sz op ep xs))
  (hb:w.heap[p.blk]? = some (.cells c t (0,0))) (hw:w'.heap[p.blk]? = some (.cells c' t (0,0))) (hcs:c'.size=c.size) (hlen:xs'.length=xs.length) (hel : ∀ x,x∈xs'→x.cells.length=sz∧Sc x)
  (hcell : ∀ i x j y,xs'[i]? = some x→x.cells[j]? = some y→VRel pl M y (c'.getD (i * sz+j) undef)) (hs:WSame w w') (hsz:w.heap.size≤w'.heap.size) (hk : ∀ b,b<w.heap.size→b≠p.blk→w'.heap[b]? = w.heap[b]?) :
  cD pl M (h.put id (.row sz op ep xs')) w'∧cT h pl M w (h.put id (.row sz op ep xs')) pl M w':=by
 have ho:=hr.obj id p _ hp hg;rw [hb] at ho;simp only [be] at ho;obtain ⟨h1,h2,h3,h4,h5,h6,h7,h8⟩:=ho;have e:=xS (pl:=pl) hp;have:=cD.change (p':=p) (o':= .row sz op ep xs') hr hp hg (.inl rfl) hs hsz hk (.inl rfl) (vn.1 hw).1 (by
  rw [e,hw];simp only [be];refine ⟨h1,h2,by omega,by omega,trivial,h6,fun e=>by simp_all,⟨?_,hel,fun i x j y q1 q2=>?_⟩⟩
  ·grind [cases InMem]
  simp_all)
 simp_all
variable {β : Type} [Inhabited β]
theorem qw {enc:β→Value} {blk off n:Nat} {d:Array β} {os:Array Obj} {c:Array Value} {t:TypeId} {fr:Nat × Nat} (hb:w.heap[blk]? = some (.cells c t fr)) :
  (grow (putRow enc (Sort.ahead w n) blk off d) os).heap[blk]? = some (.cells (putCells enc off d c) t fr):=by
 grind [grow,putRow,mapBlock,Sort.ahead,onCells]
theorem kQ {enc:β→Value} {blk off n:Nat} {d:Array β} {os:Array Obj} {b:Nat} (hb:b<w.heap.size) (hne:b≠blk) :
  (grow (putRow enc (Sort.ahead w n) blk off d) os).heap[b]? = w.heap[b]?:=by
 simp only [grow,putRow,mapBlock,Sort.ahead];grind
theorem np {enc:β→Value} {blk off n:Nat} {d:Array β} {os:Array Obj} : WSame w (grow (putRow enc (Sort.ahead w n) blk off d) os):=⟨rfl,rfl,rfl,Nat.le_add_right _ _⟩
theorem AF {enc:β→Value} {blk off n:Nat} {d:Array β} {os:Array Obj} : w.heap.size≤(grow (putRow enc (Sort.ahead w n) blk off d) os).heap.size:=by simp_all
theorem nh {enc:β→Value} {d:Array β} {c:Array Value} {k:Nat} (hk:k<d.size) (hc:k<c.size):(putCells enc 0 d c).getD k undef=enc d[k]!:=by simp_all [putCells]
theorem pN (hr:cD pl M h w) {id ep len sz:Nat} {op:Bool} {cap:Option Nat} {xs:List AV} {x:Value} (hv:VRel pl M (.slice id ep 0 len cap) x) (hg:h.get id=some (.row sz op ep xs)) (hl:0<len) :
  ∃ p c t cap',pl id=some p∧w.heap[p.blk]? = some (.cells c t (0,0))∧x = .slice (some ⟨p.blk,0,none⟩) len cap'∧InMem pl M c 0 sz xs∧0<sz∧p.blk<w.heap.size:=by
 cases hv with
 | slice hp he hle hk ha=>
  rename_i cap' a p;have ho:=hr.obj id p _ hp hg;cases hb:w.heap[p.blk]? with
  | none=>grind [be]
  | some ob=>
   rw [hb] at ho;cases ob <;> simp only [be] at ho
   rename_i c t fr;obtain ⟨h1,h2,h3,h4,h5,h6,h7,h8⟩:=ho;subst h5;obtain ⟨k1,_⟩:=ha (by omega);have k2:a=⟨p.blk,0,none⟩:=by grind
   exact ⟨p,c,t,_,hp,hb,by rw [k2],h8,h6,(vn.1 hb).1⟩
def dC (zs:List Int):List Int:=zs.mergeSort fun x y=>decide (x≤y)
theorem km (zs:List Int):(dC zs).Perm zs:=List.mergeSort_perm ..
theorem CI (zs:List Int):(dC zs).Pairwise (fun a b=>a≤b):=by
 have:=List.pairwise_mergeSort (le:=fun x y:Int=>decide (x≤y)) (by grind) (by grind) zs;exact this.imp (by simp)
theorem B6 {c:Array Value} {sz:Nat} {xs:List AV} (hm:InMem pl M c 0 sz xs) {i:Nat} {x:AV} (hx:xs[i]? = some x) {j:Nat} (hj:j<sz):i * sz+j<c.size∧∃ y,x.cells[j]? = some y∧VRel pl M y (c.getD (i * sz+j) undef):=by
 have h1:=hm.fit;have hi:=(gU.1 hx).1;have h2:=(hm.elem x (bi hx)).1;have h3:(i+1) * sz≤xs.length * sz:=ef _ hi;rw [js] at h3;refine ⟨by omega,x.cells[j],by simp_all,?_⟩;have:=hm.cell i x j _ hx (kR (by omega:j<x.cells.length));simp_all
theorem Ar {f:FuncId} (hE : ∀ vs w,(callFunc f vs).run P w = .ok (.enter f vs) w)
  (hC : ∀ (blk off cap:Nat) (zs:List Int) (w:World),Holds (Value.int .i64) w blk off zs.toArray→blk<w.heap.size→zs.length<4611686018427387904→
   Calls P f #[.slice (some ⟨blk,off,none⟩) zs.length cap] w fun e w'=>e = .returned (.tuple #[])∧∃ n os,w'=grow (putRow (Value.int .i64) (Sort.ahead w n) blk off (zs.mergeSort fun x y=>decide (x≤y)).toArray) os)
  {id ep:Nat} {op:Bool} {cap:Option Nat} (zs:List Int) (hg:h.get id=some (.row 1 op ep (zs.map bd))) (hz:0<zs.length) (hb:zs.length<4611686018427387904) :
  aC P G f [.slice id ep 0 zs.length cap] h (fun v h'=>v = .tuple []∧h'=h.put id (.row 1 op ep ((dC zs).map bd))):=by
 intro pl M w vs hG hr hv;obtain ⟨a,rfl,hv1⟩:=Q3 hv;obtain ⟨p,c,t,cap',hp,hbl,rfl,hm,_,hlt⟩:=pN hr hv1 hg hz;have hcell : ∀ j z,zs[j]? = some z→j<c.size∧c.getD j undef = .int .i64 z:=by
  intro j z hj;have hx:(zs.map bd)[j]? = some (bd z):=by simp_all
  obtain ⟨q1,y,q2,q3⟩:=B6 hm hx (j:=0) (by omega);rw [Nat.mul_one,pj] at q1 q3;simp [bd,AV.cells] at q2;subst q2;refine ⟨q1,?_⟩;cases hq:c.getD j undef <;> rw [hq] at q3 <;> cases q3
  rfl
 refine .inl ⟨hE _ _,Calls.mono (hC p.blk 0 cap' zs w (fun j hj=>?_) hlt hb) fun e w' ⟨he,n,os,hw⟩=>?_⟩
 ·have hj':j<zs.length:=by omega
  obtain ⟨q1,q2⟩:=hcell j zs[j] (kR hj');rw [gJ];refine ⟨?_,?_⟩
  ·simp only [World.cell?,hbl];simp only [Option.isSome_none,gK,if_false];rw [Ej q1];simp_all
  grind [World.frozen?]
 ·refine ⟨.tuple #[], .tuple [],_,he,⟨rfl,rfl⟩,pl,M,qt,?_⟩;have hlen:(dC zs).length=zs.length:=(km zs).length_eq;have hw1:w'.heap[p.blk]? = some (.cells (putCells (Value.int .i64) 0 (dC zs).toArray c) t (0,0)):=by rw [hw];exact qw hbl
  obtain ⟨r1,r2⟩:=sl (w':=w') (xs':=(dC zs).map bd) hr hp hg hbl hw1 (by simp [putCells]) (by simp_all) (fun x hx=>by
    obtain ⟨z,_,rfl⟩:=jr.1 hx;exact ⟨rfl,fun y hy=>by simp [bd,AV.cells] at hy;subst hy;rfl⟩) (fun i x j y q1 q2=>by
    rw [pD] at q1;obtain ⟨z,e1,rfl⟩:=Ex.1 q1;have hi:=(gU.1 e1).1;cases j with
    | succ j=>grind [bd,AV.cells]
    | zero=>
     simp [bd,AV.cells] at q2;subst q2;rw [Nat.mul_one,pj,nh (by omega) (hcell i zs[i] (kR (by omega))).1];have:(dC zs).toArray[i]! = z:=by simp_all
     rw [this];exact .int _ _) (by grind [np]) (by simp_all) (fun b hb hne=>by grind [kQ])
  exact ⟨r1,r2,af _⟩
def bU (zs:List Int):List Int:=Lib.compact zs
theorem wg (zs:List Int):(bU zs).length≤zs.length:=by grind [bU,Lib.compact,Lib.compactUpTo]
theorem vj {f:FuncId} (hE : ∀ vs w,(callFunc f vs).run P w = .ok (.enter f vs) w)
  (hC : ∀ (blk off cap:Nat) (zs:List Int) (w:World),Holds (Value.int .i64) w blk off zs.toArray→zs.length≤9223372036854775807→zs.length≤cap→
   Calls P f #[.slice (some ⟨blk,off,none⟩) zs.length cap] w fun e w'=>e = .returned (.slice (some ⟨blk,off,none⟩) (Lib.compact zs).length cap)∧∃ q,w'=putRow (Value.int .i64) (Sort.ahead w q) blk off (Lib.compact zs++List.replicate (zs.length - (Lib.compact zs).length) 0).toArray)
  {id ep:Nat} {op:Bool} (zs:List Int) (hg:h.get id=some (.row 1 op ep (zs.map bd))) (hz:0<zs.length) (hb:zs.length<4611686018427387904) :
  aC P G f [.slice id ep 0 zs.length none] h (fun v h'=>v = .slice id ep 0 (bU zs).length none∧h'=h.put id (.row 1 op ep ((bU zs++List.replicate (zs.length - (bU zs).length) 0).map bd))):=by
 intro pl M w vs hG hr hv;obtain ⟨a,rfl,hv1⟩:=Q3 hv;obtain ⟨p,c,t,cap',hp,hbl,rfl,hm,_,hlt⟩:=pN hr hv1 hg hz;have hcell : ∀ j z,zs[j]? = some z→j<c.size∧c.getD j undef = .int .i64 z:=by
  intro j z hj;have hx:(zs.map bd)[j]? = some (bd z):=by simp_all
  obtain ⟨q1,y,q2,q3⟩:=B6 hm hx (j:=0) (by omega);rw [Nat.mul_one,pj] at q1 q3;simp [bd,AV.cells] at q2;subst q2;refine ⟨q1,?_⟩;cases hq:c.getD j undef <;> rw [hq] at q3 <;> cases q3
  rfl
 have hle:=wg zs;have hcap:zs.length≤cap':=by grind [cases VRel]
 generalize hnew:bU zs++List.replicate (zs.length - (bU zs).length) 0=ns;have hnl:ns.length=zs.length:=by grind
 refine .inl ⟨hE _ _,Calls.mono (hC p.blk 0 cap' zs w (fun j hj=>?_) (by omega) hcap) fun e w' ⟨he,n,hw⟩=>?_⟩
 ·have hj':j<zs.length:=by omega
  obtain ⟨q1,q2⟩:=hcell j zs[j] (kR hj');rw [gJ];refine ⟨?_,?_⟩
  ·simp only [World.cell?,hbl];simp only [Option.isSome_none,gK,if_false];rw [Ej q1];simp_all
  grind [World.frozen?]
 ·have hw2:w'=grow (putRow (Value.int .i64) (Sort.ahead w n) p.blk 0 ns.toArray) #[]:=by rw [hw,grow_empty];congr 2
  have hrel:VRel pl M (.slice id ep 0 (bU zs).length none) (.slice (some ⟨p.blk,0,none⟩) (bU zs).length cap'):=by
   cases hv1 with
   | slice hp he hl hk ha=>
    refine .slice hp he (by omega) hk fun e=>?_
    grind
  refine ⟨_,_,_,he,⟨rfl,rfl⟩,pl,M,hrel,?_⟩;have hw1:w'.heap[p.blk]? = some (.cells (putCells (Value.int .i64) 0 ns.toArray c) t (0,0)):=by grind [qw]
  obtain ⟨r1,r2⟩:=sl (w':=w') (xs':=ns.map bd) hr hp hg hbl hw1 (by simp [putCells]) (by simp_all) (fun x hx=>by
    obtain ⟨z,_,rfl⟩:=jr.1 hx;exact ⟨rfl,fun y hy=>by simp [bd,AV.cells] at hy;subst hy;rfl⟩) (fun i x j y q1 q2=>by
    rw [pD] at q1;obtain ⟨z,e1,rfl⟩:=Ex.1 q1;have hi:=(gU.1 e1).1;cases j with
    | succ j=>grind [bd,AV.cells]
    | zero=>
     simp [bd,AV.cells] at q2;subst q2;rw [Nat.mul_one,pj,nh (by omega) (hcell i zs[i] (kR (by omega))).1];have:ns.toArray[i]! = z:=by simp_all
     rw [this];exact .int _ _) (by grind [np]) (by simp_all) (fun b hb hne=>by grind [kQ])
  exact ⟨r1,r2,af _⟩
theorem CL {f:FuncId} (hE : ∀ vs w,(callFunc f vs).run P w = .ok (.enter f vs) w)
  (hC : ∀ (p:Option Addr) (cap:Nat) (w:World),Calls P f #[.slice p 0 cap] w fun e w'=>e = .returned (.tuple #[])∧w'=w):aN P G f [.nils] (.tuple []):=by
 intro h pl M w vs hG hr hv;obtain ⟨a,rfl,hv1⟩:=Q3 hv;cases hv1
 exact .inl ⟨hE _ _,Calls.mono (hC none 0 w) fun e w' ⟨he,hw⟩=>⟨.tuple #[], .tuple [],h,he,⟨rfl,rfl⟩,pl,M,qt,by simp_all [StepF.refl]⟩⟩
theorem ur {f:FuncId} {g:Fn} (hE : ∀ vs w,(callFunc f vs).run P w = .ok (.enter f vs) w)
  (hC : ∀ (p:Option Addr) (cap:Nat) (fv:Value) (w:World),Calls P f #[.slice p 0 cap,fv] w fun e w'=>e = .returned (.tuple #[])∧w'=w):aN P G f [.nils, .func g [] []] (.tuple []):=by
 intro h pl M w vs hG hr hv;obtain ⟨a,b,rfl,hv1,hv2⟩:=Aq hv;cases hv1
 exact .inl ⟨hE _ _,Calls.mono (hC none 0 b w) fun e w' ⟨he,hw⟩=>⟨.tuple #[], .tuple [],h,he,⟨rfl,rfl⟩,pl,M,qt,by simp_all [StepF.refl]⟩⟩
def DV {α:Type} (cmp:α→α→Int) (a b:α):Bool:=decide (cmp a b<0)
theorem As {f g:FuncId} {sz:Nat} (hGT:iF G) (hE : ∀ vs w,(callFunc f vs).run P w = .ok (.enter f vs) w) (hg2 : ∀ args w,(callFunc g args).run P w = .ok (.enter g args) w)
  (hC : ∀ (m:Nat) (enc:Fin (m+1)→List Value) (cf:Fin (m+1)→Fin (m+1)→Int) (blk off cap:Nat) (d:Array (Fin (m+1))) (w:World),(∀ x,(enc x).length=sz)→(∀ x,∀ v∈enc x,v.oneCell'=true)→SWO (ltOf cf)→
   CmpLays P g #[] enc sz cf blk off d.size w→HoldsK enc sz w blk off d→blk<w.heap.size→d.size<4611686018427387904→
   Calls P f #[.slice (some ⟨blk,off,none⟩) d.size cap, .func (.func g) #[] #[]] w fun e w'=>e = .returned (.tuple #[])∧∃ d' n os,PermIn 0 d.size d d'∧SortedIn (ltOf cf) 0 d.size d'∧w'=sortWorldK enc sz w blk off n d' os)
  {α:Type} [Inhabited α] (enc:α→AV) (cmp:α→α→Int) (hO:SWO (DV cmp)) (hag : ∀ a,∃ cs,enc a = .agg cs) (htop : ∀ a,(enc a).top=0)
  (l:List α) (hcmp : ∀ a,a∈l→∀ b,b∈l→aN P G g [enc a,enc b] (.int .i64 (cmp a b)))
  {oid ep:Nat} {op:Bool} {cap:Option Nat} (hg:h.get oid=some (.row sz op ep (l.map enc))) (hz:0<l.length) (hb:l.length<4611686018427387904) :
  aC P G f [.slice oid ep 0 l.length cap, .func (.func g) [] []] h (fun v h'=>∃ l':List α,(l'.Perm l∧l'.Pairwise fun a b=>DV cmp b a=false)∧v = .tuple []∧h'=h.put oid (.row sz op ep (l'.map enc))):=by
 intro pl M w vs hG hr hv;obtain ⟨a,fv,rfl,hv1,hv2⟩:=Aq hv;have e2:=yf hv2;subst e2;obtain ⟨p,c,t,cap',hp,hbl,rfl,hm,hsz0,hlt⟩:=pN hr hv1 hg hz;obtain ⟨m,hm1⟩ : ∃ m,l.length=m+1:=⟨l.length - 1,by omega⟩
 have hfit:=hm.fit;rw [b8,gJ,hm1] at hfit;have helem : ∀ i:Fin (m+1),(l.map enc)[i.1]? = some (enc l[i.1]!):=fun i=>by
  have:=i.2;rw [pD,kR (by omega),getElem!_pos l i.1 (by omega)];rfl
 have hmul : ∀ i:Fin (m+1),i.1 * sz+sz≤(m+1) * sz:=fun i=>by have:=ef sz (Nat.succ_le_of_lt i.2);rwa [pE] at this
 generalize hcof:(fun i:Fin (m+1)=>(List.range sz).map fun j=>c.getD (i.1 * sz+j) undef)=cellsOf;have cl : ∀ i,(cellsOf i).length=sz:=fun i=>by rw [← hcof];simp
 have cg : ∀ i j,j<sz→(cellsOf i)[j]? = some (c.getD (i.1 * sz+j) undef):=fun i j hj=>by rw [← hcof];simp [hj]
 generalize hd:(Array.ofFn (n:=m+1) id)=d;have hds:d.size=m+1:=by rw [← hd];simp
 have hdg : ∀ j (hj:j<m+1),d[j]! = ⟨j,hj⟩:=fun j hj=>by rw [getElem!_pos d j (by omega)];subst hd;simp
 have hflat : ∀ (dk:Array (Fin (m+1))),dk.size=m+1→∀ i j,i<m+1→j<sz→(flatK cellsOf sz dk)[i * sz+j]! = c.getD ((dk[i]!).1 * sz+j) undef:=fun dk hdk i j hi hj=>by
  have h1:i * sz+j<dk.size * sz:=by have:=ef sz (Nat.succ_le_of_lt hi);rw [pE] at this;rw [hdk];omega
  rw [get_flatK cellsOf sz dk _ h1];have h2:(i * sz+j) / sz=i:=by rw [Nat.mul_comm,Nat.mul_add_div hsz0,Nat.div_eq_of_lt hj,pj]
  have h3:(i * sz+j) % sz=j:=by rw [Nat.mul_comm,Nat.mul_add_mod,Nat.mod_eq_of_lt hj]
  rw [h2,h3,getElem!_pos _ j (by rw [cl];exact hj)];have:=cg (dk[i]!) j hj;rw [kR (by rw [cl];exact hj)] at this;simpa using this
 have hH:HoldsK cellsOf sz w p.blk 0 d:=by
  intro k hk;rw [size_flatK,hds] at hk;have hi:k / sz<m+1:=Nat.div_lt_of_lt_mul (by rw [Nat.mul_comm];exact hk);have hj:k % sz<sz:=Nat.mod_lt _ hsz0;have hk2:k / sz * sz+k % sz=k:=by rw [Nat.mul_comm];exact Nat.div_add_mod k sz
  have:=hflat d hds (k / sz) (k % sz) hi hj;rw [hdg _ hi,hk2] at this;rw [this,gJ];have hkc:k<c.size:=by omega
  refine ⟨?_,by simp [World.frozen?,hbl]⟩;simp only [World.cell?,hbl];simp only [Option.isSome_none,gK,if_false];rw [Ej hkc];simp [Array.getD,hkc]
 have hrelE : ∀ (i:Fin (m+1)) cs,enc l[i.1]! = .agg cs→cs.length=sz∧(∀ y,y∈cs→cF y=true)∧∀ (j:Nat) (y:AV),cs[j]? = some y→VRel pl M y (c.getD (i.1 * sz+j) undef):=by
  intro i cs hcs;have h1:=hm.elem _ (bi (helem i));rw [hcs] at h1;refine ⟨h1.1,h1.2,fun j y hj=>?_⟩;have:=hm.cell i.1 _ j y (helem i) (by rw [hcs];exact hj);rwa [gJ] at this
 have hone : ∀ i,∀ v∈cellsOf i,v.oneCell'=true:=by
  intro i v hvm;obtain ⟨j,hj,e⟩:=Ez hvm;rw [cl] at hj;have h1:=cg i j hj;rw [kR (by rw [cl];exact hj),e] at h1;obtain ⟨cs,hcs⟩:=hag l[i.1]!;obtain ⟨k1,k2,k3⟩:=hrelE i cs hcs;have:=k3 j cs[j] (kR (by omega));cases h1
  exact this.one (k2 _ (Ct _))
 have hmemL : ∀ i:Fin (m+1),l[i.1]!∈l:=fun i=>by
  have:=i.2;rw [getElem!_pos l i.1 (by omega)];exact Ct _
 have hlays:CmpLays P g #[] cellsOf sz (fun i j=>cmp l[i.1]! l[j.1]!) p.blk 0 d.size w:=by
  intro n os dk hdk x y;generalize hW:sortWorldK cellsOf sz w p.blk 0 n dk os=W;have hWo : ∀ b,b<w.heap.size→b≠p.blk→W.heap[b]? = w.heap[b]?:=fun b h1 h2=>by rw [← hW];exact kQ h1 h2
  have hrW:cD (fun _=>none) M AHeap.none W:=qZ (pl:=fun _=>none) (n:=0) (g:=AHeap.none.get) ⟨fun _ _ h=>by simp at h,fun _ _ _ h=>by simp at h,fun _ _ h=>by simp at h,fun _ _ _ _ h=>by simp at h,fun b c' hM=>by
   obtain ⟨t',fr,q⟩:=hr.imm b c' hM;refine ⟨t',fr,?_⟩;rw [hWo b (hr.memLt hM) (fun e=>by have:=hr.sep oid p hp;rw [← e,hM] at this;cases this)];exact q,fun _ _ h=>by simp at h⟩
  have hrel : ∀ i:Fin (m+1),VRel (fun _=>none) M (enc l[i.1]!) (.agg (cellsOf i).toArray):=by
   intro i;obtain ⟨cs,hcs⟩:=hag l[i.1]!;obtain ⟨k1,k2,k3⟩:=hrelE i cs hcs;have ht:=htop l[i.1]!;rw [hcs] at ht ⊢;refine .agg (by simp [cl,k1]) k2 fun j y hj=>?_
   have hj':j<sz:=by rw [← k1];exact (gU.1 hj).1
   have e:(cellsOf i).toArray.getD j undef=c.getD (i.1 * sz+j) undef:=by
    have:=cg i j hj';rw [gd,nM,this];rfl
   rw [e];exact (k3 j y hj).none (jM.1 ht y (bi hj))
  have hc:=hcmp _ (hmemL x) _ (hmemL y) AHeap.none (fun _=>none) M W #[.agg (cellsOf x).toArray, .agg (cellsOf y).toArray] (hG.none hGT) hrW ⟨rfl,fun j z hj=>by
   match j,hj with
   | 0,hj=>cases hj;exact hrel x
   | 1,hj=>cases hj;exact hrel y⟩
  rcases hc with ⟨h1,h2⟩ | ⟨cv,w',v,h',h1,h2,h3⟩
  ·refine Calls.mono h2 fun e w' ⟨cv,v,h',k1,k2,pl',M',k3,k4,k5,k6⟩=>?_
   obtain ⟨k2,_⟩:=k2;subst k2;cases k3
   refine ⟨k1,?_⟩;obtain ⟨q,hq⟩:=regrown_of_below (w:=W) (w':=w') ⟨k5.os,k5.tape,k5.out,k5.size,fun b hb=>k5.kept b hb fun id p h=>by simp at h⟩;refine ⟨w'.drawn - W.drawn,q.os,?_⟩;have hd1:w'.drawn=q.d:=by rw [hq];rfl
   have hd2:=k5.drawn;have:redrawn W q.d=W.drewN (w'.drawn - W.drawn):=by
    show ({ W with drawn:=q.d } : World) = { W with drawn:=W.drawn+(w'.drawn - W.drawn) }
    congr 1;omega
   rw [← this];exact hq
  ·rw [hg2] at h1;cases h1
 refine .inl ⟨hE _ _,?_⟩;have hcall:=hC m cellsOf (fun i j=>cmp l[i.1]! l[j.1]!) p.blk 0 cap' d w cl hone ⟨fun x=>hO.irrefl _,fun x y z=>hO.trans _ _ _,fun x y z=>hO.ntrans _ _ _⟩ hlays hH hlt (by omega);rw [show d.size=l.length by omega] at hcall;refine Calls.mono hcall fun e w' ⟨he,d',n,os,hP,hS,hw⟩=>?_
 obtain ⟨hp1,_,hp3⟩:=hP;have hd's:d'.size=m+1:=by omega
 have hperm:d'.toList.Perm d.toList:=by
  have e1:d'.extract 0 l.length=d':=by rw [show l.length=d'.size by omega];exact Array.extract_size
  have e2:d.extract 0 l.length=d:=by rw [show l.length=d.size by omega];exact Array.extract_size
  rwa [e1,e2] at hp3
 have hdl:d.toList.map (fun i=>l[i.1]!)=l:=by
  apply List.ext_getElem?;intro i;by_cases hi:i<l.length
  ·rw [pD,Array.getElem?_toList,Ej (by omega),kR hi];have:=hdg i (by omega);rw [getElem!_pos d i (by omega)] at this;rw [this];show some (l[i]!)=some l[i]
   rw [getElem!_pos l i hi]
  ·rw [List.getElem?_eq_none (by simp;omega),List.getElem?_eq_none (by omega)]
 have hl':(d'.toList.map (fun i=>l[i.1]!)).length=l.length:=by simp;omega
 refine ⟨.tuple #[], .tuple [],_,he,⟨d'.toList.map (fun i=>l[i.1]!),⟨?_,?_⟩,rfl,rfl⟩,pl,M,qt,?_⟩
 ·have:=hperm.map (fun i=>l[i.1]!);rwa [hdl] at this
 ·rw [EU];intro i j hi hj hij;have hi':i<d'.size:=by simpa using hi
  have hj':j<d'.size:=by simpa using hj
  have:=hS i j (bE _) hij (by omega);rw [getElem!_pos d' i hi',getElem!_pos d' j hj'] at this;simpa [DV,ltOf] using this
 ·have hw1:w'.heap[p.blk]? = some (.cells (putCells id 0 (flatK cellsOf sz d') c) t (0,0)):=by rw [hw];exact qw hbl
  obtain ⟨r1,r2⟩:=sl (w':=w') (xs':=(d'.toList.map (fun i=>l[i.1]!)).map enc) hr hp hg hbl hw1 (by simp [putCells]) (by simp;omega) (fun x hx=>by
    obtain ⟨z,h1,rfl⟩:=jr.1 hx;obtain ⟨i,_,rfl⟩:=jr.1 h1;exact hm.elem _ (bi (helem i))) (fun i x j y q1 q2=>by
    rw [pD,pD,Array.getElem?_toList] at q1;obtain ⟨z,e1,rfl⟩:=Ex.1 q1;obtain ⟨k,e2,rfl⟩:=Ex.1 e1;have hi:i<d'.size:=(vn.1 e2).1;obtain ⟨cs,hcs⟩:=hag l[k.1]!;obtain ⟨k1,k2,k3⟩:=hrelE k cs hcs;rw [hcs] at q2;have hj:j<sz:=by rw [← k1];exact (gU.1 q2).1
    have hb1:i * sz+j<(m+1) * sz:=by have:=ef sz (Nat.succ_le_of_lt (show i<m+1 by omega));rw [pE] at this;omega
    rw [nh (by rw [size_flatK,hd's];exact hb1) (by omega)];have:=hflat d' hd's i j (by omega) hj;have e3:d'[i]! = k:=by rw [getElem!_pos d' i hi];rw [Ej hi] at e2;simpa using e2
    rw [e3] at this;show VRel pl M y (flatK cellsOf sz d')[i * sz+j]!
    rw [this];exact k3 j y q2) (by rw [hw];exact np) (by rw [hw];exact AF) (fun b hb hne=>by rw [hw];exact kQ hb hne)
  exact ⟨r1,r2,af _⟩
end
end Go.Ev
namespace Go.Ev
open Go
theorem xp (a b:Int):ar (gw a b) 0=ar a b:=by
 unfold gw;cases h:ar a b with
 | true=>rfl
 | false=>cases h2:ar b a <;> rfl
noncomputable def nE (l:List PSpan) (d:Int):Nat:=(l.takeWhile fun s=>ar s.from_ d).length
theorem DA (l:List PSpan) (d:Int):nE l d≤l.length:=by
 induction l with
 | nil=>simp [nE]
 | cons a r ih=>grind [nE,List.takeWhile_cons]
def rA (l:List PSpan):Prop:=l.Pairwise fun a b=>a.from_≤b.from_
theorem z8 {d:Int} : ∀ {l:List PSpan},rA l→∀ k,k<l.length→(ar (gD l k).from_ d=true↔k<nE l d)
 | [],_,k,h=>by simp_all
 | a::r,hs,k,h=>by
  obtain ⟨h1,h2⟩:=kx.1 hs;unfold nE;rw [List.takeWhile_cons];cases q:ar a.from_ d with
  | true=>
   simp only [if_true,cN];cases k with
   | zero=>grind [gD]
   | succ k=>
    have:=z8 (d:=d) h2 k (by simp_all);rw [show gD (a::r) (k+1)=gD r k from rfl,this];grind [nE]
  | false=>
   simp only [gK,if_false,gc,px,iff_false,Bool.not_eq_true];have hd:=aF q;grind [iQ,lL]
noncomputable def IW (l:List PSpan) (d:Int):Bool:=ar (Int.ofNat (nE l d)) (Int.ofNat l.length) && ab (gw (gD l (nE l d)).from_ d) 0
theorem Nv {l:List PSpan} (h:l.Pairwise fun a b=>a.to<b.from_) (h2 : ∀ s,s∈l→s.from_<s.to):rA l:=by
 induction l with
 | nil=>exact .nil
 | cons a r ih=>
  obtain ⟨h3,h4⟩:=kx.1 h;refine kx.2 ⟨fun b hb=>?_,ih h4 fun s hs=>h2 s (fy _ hs)⟩;grind
structure NrmS (l:List PSpan):Prop where
 gap:l.Pairwise fun a b=>a.to<b.from_
 ok : ∀ s,s∈l→0≤s.from_∧s.from_<s.to∧s.to≤1048577
theorem NrmS.sort {l:List PSpan} (h:NrmS l):rA l:=Nv h.gap fun s hs=>(h.ok s hs).2.1
theorem HZ : ∀ {l:List PSpan} {b:Int},l.Pairwise (fun a b=>a.to<b.from_)→(∀ s,s∈l→b≤s.from_∧s.from_<s.to∧s.to≤1048577)→b≤1048577→Int.ofNat l.length≤1048577 - b
 | [],b,_,_,hb=>by simp_all
 | a::r,b,h,h2,hb=>by
  obtain ⟨h3,h4⟩:=kx.1 h;have h5:=h2 a (fG ..);have:=HZ (l:=r) (b:=b+1) h4 (fun s hs=>by grind) (by omega);grind
theorem NrmS.len {l:List PSpan} (h:NrmS l):l.length≤1048577:=by
 have:=HZ (b:=0) h.gap h.ok (by omega);grind
noncomputable def ie (l:List PSpan) (d:Int):Bool:=IW l d || (ar 0 (Int.ofNat (nE l d)) && ar d (gD l (nE l d - 1)).to)
theorem DW (a b:Int):BH a b=max a b:=by
 unfold BH;cases h:ar a b with
 | true=>have:=ap h;grind
 | false=>have:=aF h;grind
theorem H2 (a b:Int):LL a b=min a b:=by
 unfold LL;cases h:ar b a with
 | true=>have:=ap h;grind
 | false=>have:=aF h;grind
noncomputable abbrev Un (s:PSpan):PSpan:=⟨BH s.from_ 0,LL s.to 1048577⟩
noncomputable abbrev Wh (s:PSpan):Bool:=ar (BH s.from_ 0) (LL s.to 1048577)
noncomputable def jv:List PSpan→List PSpan
 | []=> []
 | s::r=>match Wh s with | true=>Un s::jv r | false=>jv r
theorem uJ {s:PSpan} {r:List PSpan} (h:Wh s=true):jv (s::r)=Un s::jv r:=by grind [jv]
theorem uK {s:PSpan} {r:List PSpan} (h:Wh s=false):jv (s::r)=jv r:=by grind [jv]
theorem Cc : ∀ (l:List PSpan),(jv l).length≤l.length
 | []=>by simp [jv]
 | s::r=>by
  have:=Cc r;cases h:Wh s with
  | true=>grind [uJ]
  | false=>grind [uK]
theorem AQ : ∀ {l:List PSpan} {s:PSpan},s∈jv l→0≤s.from_∧s.from_<s.to∧s.to≤1048577
 | a::r,s,hs=>by
  cases h:Wh a with
  | true=>
   rw [uJ h] at hs;rcases fz.1 hs with e | e
   ·subst e;have h2:=ap h;grind [DW,H2]
   ·exact AQ e
  | false=>rw [uK h] at hs;exact AQ hs
def memB (l:List PSpan) (d:Int):Bool:=l.any fun s=>decide (s.from_≤d∧d<s.to)
def Nf (d:Int):Bool:=decide (0≤d∧d<1048577)
theorem mr (d:Int):memB [] d=false:=rfl
theorem eb (a:PSpan) (l:List PSpan) (d:Int):memB (a::l) d=(decide (a.from_≤d∧d<a.to) || memB l d):=rfl
theorem yM (l r:List PSpan) (d:Int):memB (l++r) d=(memB l d || memB r d):=by simp [memB]
theorem jx {l:List PSpan} {d:Int} : memB l d=true↔∃ s,s∈l∧s.from_≤d∧d<s.to:=by simp [memB]
theorem LN {l r:List PSpan} (h:l.Perm r) (d:Int):memB l d=memB r d:=by
 rw [Cu,jx,jx];grind
theorem Cb : ∀ (l:List PSpan) (d:Int),memB (jv l) d=(Nf d && memB l d)
 | [],d=>by simp [jv,memB]
 | a::r,d=>by
  have ih:=Cb r d;have e : ∀ b:Bool,(b=decide (0≤d∧d<1048577∧a.from_≤d∧d<a.to))→(b || (Nf d && memB r d))=(Nf d && memB (a::r) d):=fun b hb=>by grind [eb,Nf]
  cases h:Wh a with
  | true=>
   rw [uJ h,eb,ih];refine e _ ?_;simp only [DW,H2];grind
  | false=>
   rw [uK h,ih];have h2:=aF h;simp only [DW,H2] at h2;grind
theorem NrmS.tail {a:PSpan} {r:List PSpan} (h:NrmS (a::r)):NrmS r:=⟨(kx.1 h.gap).2,fun s hs=>h.ok s (fy _ hs)⟩
theorem NrmS.low {a x:PSpan} {r:List PSpan} (h:NrmS (a::r)) (hx:x∈r):a.to<x.from_:=(kx.1 h.gap).1 x hx
theorem NrmS.head {a:PSpan} {r:List PSpan} (h:NrmS (a::r)):0≤a.from_∧a.from_<a.to∧a.to≤1048577:=h.ok a (fG ..)
theorem xa:NrmS []:=⟨.nil,fun s h=>by grind⟩
theorem qG {a:PSpan} {r:List PSpan} (h:NrmS (a::r)):memB (a::r) a.from_=true:=by grind [eb,cases NrmS]
theorem FU {a:PSpan} {r:List PSpan} (h:NrmS (a::r)) {d:Int} (hd:memB (a::r) d=true):a.from_≤d:=by
 obtain ⟨s,h1,h2,h3⟩:=jx.1 hd;rcases fz.1 h1 with e | e
 ·simp_all
 ·have:=h.low e;grind [cases NrmS]
theorem O2 {a:PSpan} {r:List PSpan} (h:NrmS (a::r)):memB (a::r) a.to=false:=by
 cases q:memB (a::r) a.to with
 | false=>rfl
 | true=>
  obtain ⟨s,h1,h2,h3⟩:=jx.1 q;rcases fz.1 h1 with e | e
  ·simp_all
  ·have:=h.low e;omega
theorem FY {a:PSpan} {r:List PSpan} (h:NrmS (a::r)) (d:Int):memB r d=(decide (a.to≤d) && memB (a::r) d):=by
 rw [eb];by_cases h1:a.to≤d
 ·grind
 ·have:memB r d=false:=by
   cases q:memB r d with
   | false=>rfl
   | true=>
    obtain ⟨s,h2,h3,h4⟩:=jx.1 q;have:=h.low h2;omega
  grind
theorem yC : ∀ {r s:List PSpan},NrmS r→NrmS s→(∀ d,memB r d=memB s d)→r=s
 | [], [],_,_,_=>rfl
 | [],b::s,_,hs,h=>by grind [qG,mr]
 | a::r, [],hr,_,h=>by grind [qG,mr]
 | a::r,b::s,hr,hs,h=>by
  have h1:b.from_≤a.from_:=FU hs (by grind [qG]);have h2:a.from_≤b.from_:=FU hr (by grind [qG]);have ha:=hr.head;have hb:=hs.head;have h3 : ¬ a.to<b.to:=fun q=>by grind [eb,O2]
  have h4 : ¬ b.to<a.to:=fun q=>by grind [eb,O2]
  have e:a=b:=by
   obtain ⟨a1,a2⟩:=a;obtain ⟨b1,b2⟩:=b;grind
  subst e;rw [yC hr.tail hs.tail fun d=>by rw [FY hr,FY hs,h]]
def ve (f:Int→Bool) (d:Int) (l:List PSpan):List PSpan:=match f d with
 | false=>l
 | true=>match l with
  | []=> [⟨d,d+1⟩]
  | s::r=>if s.from_=d+1 then ⟨d,s.to⟩::r else ⟨d,d+1⟩::s::r
def vL (f:Int→Bool):Nat→List PSpan
 | 0=> []
 | k+1=>ve f (1048577 - Int.ofNat (k+1)) (vL f k)
theorem Nq {f:Int→Bool} {d:Int} {l:List PSpan} (h0:0≤d) (h1:d+1≤1048577) (hl:NrmS l) (hf : ∀ s,s∈l→d+1≤s.from_) :
  NrmS (ve f d l)∧(∀ s,s∈ve f d l→d≤s.from_)∧∀ e,memB (ve f d l) e=((decide (e=d) && f e) || memB l e):=by
 unfold ve;cases hfd:f d with
 | false=>grind
 | true=>
  match l,hl,hf with
  | [],_,_=>
   refine ⟨⟨by simp,fun s hs=>by grind⟩,fun s hs=>by simp_all,fun e=>?_⟩;simp only [eb,mr,Bool.or_false];grind
  | s::r,hl,hf=>
   have hs:=hl.head;have hs2:=hf s (fG ..);simp only [];by_cases q:s.from_=d+1
   ·rw [if_pos q];refine ⟨⟨kx.2 ⟨fun x hx=>hl.low hx,hl.tail.gap⟩,fun x hx=>?_⟩,fun x hx=>?_,fun e=>?_⟩
    ·grind [cases NrmS]
    ·grind
    ·simp only [eb];grind
   ·rw [if_neg q];refine ⟨⟨kx.2 ⟨fun x hx=>?_,hl.gap⟩,fun x hx=>?_⟩,fun x hx=>?_,fun e=>?_⟩
    ·have:=hf x hx;rcases fz.1 hx with e | e
     ·grind
     ·have:=hl.low e;grind
    ·rcases fz.1 hx with e | e
     ·grind
     ·exact hl.ok x e
    ·grind
    ·rw [eb];grind
theorem ES (f:Int→Bool) : ∀ k,k≤1048577→NrmS (vL f k)∧(∀ s,s∈vL f k→1048577 - Int.ofNat k≤s.from_)∧∀ e,memB (vL f k) e=(decide (1048577 - Int.ofNat k≤e∧e<1048577) && f e)
 | 0,_=>by
  refine ⟨xa,fun s h=>(by cases h),fun e=>?_⟩;have:decide (1048577 - Int.ofNat 0≤e∧e<1048577)=false:=by simp_all
  rw [this];rfl
 | k+1,hk=>by
  obtain ⟨h1,h2,h3⟩:=ES f k (by omega);simp only [aI] at *;have:=Nq (f:=f) (d:=1048577 - ((k+1:Nat):Int)) (l:=vL f k) (by omega) (by omega) h1 (fun s hs=>by grind);have h5:vL f (k+1)=ve f (1048577 - ((k+1:Nat):Int)) (vL f k):=by grind [vL]
  grind
theorem O4 (f:Int→Bool) : ∃ l:List PSpan,NrmS l∧∀ d,memB l d=(Nf d && f d):=by
 obtain ⟨h1,_,h3⟩:=ES f 1048577 (af _);exact ⟨_,h1,fun d=>by simp_all [Nf]⟩
noncomputable def nf (f:Int→Bool):List PSpan:=Classical.choose (O4 f)
theorem yE (f:Int→Bool):NrmS (nf f):=(Classical.choose_spec (O4 f)).1
theorem HS (f:Int→Bool) (d:Int):memB (nf f) d=(Nf d && f d):=(Classical.choose_spec (O4 f)).2 d
theorem O5 {f:Int→Bool} {r:List PSpan} (h:NrmS r) (hm : ∀ d,memB r d=(Nf d && f d)):r=nf f:=yC h (yE f) fun d=>by grind [HS]
theorem O6 {f g:Int→Bool} (h : ∀ d,Nf d=true→f d=g d):nf f=nf g:=O5 (yE f) fun d=>by
 rw [HS];grind
theorem Sy {l:List PSpan} (h:NrmS l):l=nf (memB l):=O5 h fun d=>by
 cases q:memB l d with
 | false=>simp_all
 | true=>
  obtain ⟨s,h1,h2,h3⟩:=jx.1 q;have:=h.ok s h1;have:Nf d=true:=by unfold Nf;grind
  simp_all
theorem CD {α:Type} [Inhabited α] {l:List α} {n:Nat} (h:n<l.length):l.take (n+1)=l.take n++ [gD l n]:=by grind [List.take_add_one,gD]
theorem Dl {α:Type} [Inhabited α] {l:List α} {n:Nat} (h:n<l.length):l.drop n=gD l n::l.drop (n+1):=by grind [List.drop_eq_getElem_cons,gD]
theorem sP {α:Type} {l:List α} {n m:Nat} {x:α} (h:n≤m):(l.set m x).take n=l.take n:=by
 apply List.ext_getElem?;grind
theorem PP {α:Type} [Inhabited α] {l:List α} {i k:Nat} {x:α} (h:i<l.length):gD (l.set i x) k=if k=i then x else gD l k:=by
 unfold gD List.getD;grind
theorem rA.at {l:List PSpan} (h:rA l) {i k:Nat} (hik:i≤k) (hk:k<l.length):(gD l i).from_≤(gD l k).from_:=by
 rcases fV i k with q | q
 ·have:=EU.1 h i k (by omega) hk q;grind [gD]
 grind
structure MergeI (l cur:List PSpan) (n i:Nat):Prop where
 len:cur.length=l.length
 le:n≤i
 il:i≤l.length
 pos:0<i→0<n
 rest : ∀ k,i≤k→k<l.length→gD cur k=gD l k
 gap : ∀ j k,j<k→k<n→(gD cur j).to<(gD cur k).from_
 ok : ∀ k,k<n→0≤(gD cur k).from_∧(gD cur k).from_<(gD cur k).to∧(gD cur k).to≤1048577
 last:0<n→∀ k,i≤k→k<l.length→(gD cur (n - 1)).from_≤(gD l k).from_
 mem : ∀ d,(memB (cur.take n) d || memB (l.drop i) d)=memB l d
theorem MergeI.start (l:List PSpan):MergeI l l 0 0:=⟨rfl,af _,bE _,fun h=>absurd h (vo _),fun _ _ _=>rfl,fun _ _ _ h=>absurd h (px _),fun _ h=>absurd h (px _),fun h=>absurd h (vo _),fun d=>by simp [memB]⟩
theorem MergeI.copy {l cur:List PSpan} {n i:Nat} (h:MergeI l cur n i) (hi:i<l.length) (hs:rA l) (hok : ∀ k,k<l.length→0≤(gD l k).from_∧(gD l k).from_<(gD l k).to∧(gD l k).to≤1048577)
  (hn:n=0∨(gD cur (n - 1)).to<(gD cur i).from_):MergeI l (cur.set n (gD cur i)) (n+1) (i+1):=by
 rw [h.rest i (af _) hi] at hn ⊢;have hl:=h.le;have hcl:=h.len;have hg : ∀ k,gD (cur.set n (gD l i)) k=if k=n then gD l i else gD cur k:=fun k=>PP (by omega)
 refine ⟨by simp_all,by omega,by omega,fun _=>by omega,fun k h1 h2=>?_,fun j k h1 h2=>?_,fun k h1=>?_,fun _ k h1 h2=>?_,fun d=>?_⟩
 ·grind [cases MergeI]
 ·rw [hg,hg,if_neg (by omega)];by_cases e:k=n
  ·rw [if_pos e];rcases hn with hn | hn
   ·omega
   ·by_cases e2:j=n - 1
    ·simp_all
    ·have h3:=h.gap j (n - 1) (by omega) (by omega);grind [cases MergeI]
  ·grind [cases MergeI]
 ·rw [hg];by_cases e:k=n
  ·simp_all
  ·grind [cases MergeI]
 ·rw [hg,if_pos (by omega)];exact hs.at (by omega) h2
 ·rw [CD (by grind),hg,if_pos rfl,sP (af _),yM,← h.mem d,Dl hi,eb,eb,mr];grind
theorem MergeI.join {l cur:List PSpan} {n i:Nat} (h:MergeI l cur n i) (hi:i<l.length) (hs:rA l) (hok : ∀ k,k<l.length→0≤(gD l k).from_∧(gD l k).from_<(gD l k).to∧(gD l k).to≤1048577)
  (hn:0<n) (hle:(gD cur i).from_≤(gD cur (n - 1)).to) (x:Int) (hx:x=BH (gD cur (n - 1)).to (gD cur i).to):MergeI l (cur.set (n - 1) ⟨(gD cur (n - 1)).from_,x⟩) n (i+1):=by
 rw [h.rest i (af _) hi] at hle;rw [h.rest i (af _) hi,DW] at hx;have hl:=h.le;have hcl:=h.len;have hg : ∀ k,gD (cur.set (n - 1) ⟨(gD cur (n - 1)).from_,x⟩) k=if k=n - 1 then ⟨(gD cur (n - 1)).from_,x⟩ else gD cur k:=fun k=>PP (by omega)
 have h4:=h.ok (n - 1) (by omega);have h5:=hok i hi;have h6:=h.last hn i (af _) hi;refine ⟨by simp_all,by omega,by omega,fun _=>hn,fun k h1 h2=>?_,fun j k h1 h2=>?_,fun k h1=>?_,fun _ k h1 h2=>?_,fun d=>?_⟩
 ·grind [cases MergeI]
 ·rw [hg,hg,if_neg (by omega)];by_cases e:k=n - 1
  ·grind [cases MergeI]
  ·grind [cases MergeI]
 ·rw [hg];by_cases e:k=n - 1
  ·grind
  ·grind [cases MergeI]
 ·grind [cases MergeI]
 ·obtain ⟨m,rfl⟩ : ∃ m,n=m+1:=⟨n - 1,by omega⟩
  simp only [Nat.add_sub_cancel] at *;rw [CD (by grind),hg,if_pos rfl,sP (af _),yM,← h.mem d,Dl hi,eb (gD l i),CD (by omega),yM,eb,eb,mr,Bool.or_false,Bool.or_false];grind
theorem MergeI.nrm {l cur:List PSpan} {n i:Nat} (h:MergeI l cur n i):NrmS (cur.take n):=by
 have hl:=h.le;have hcl:=h.len;have hil:=h.il;have hlen:(cur.take n).length=n:=by grind
 have hg : ∀ k (hk:k<(cur.take n).length),(cur.take n)[k]=gD cur k:=fun k hk=>by rw [List.getElem_take];unfold gD List.getD;grind
 refine ⟨?_,fun s hs=>?_⟩;all_goals grind [List.pairwise_iff_getElem,List.getElem_of_mem,cases MergeI]
theorem MergeI.done {l cur:List PSpan} {n i:Nat} (h:MergeI l cur n i) (hi:l.length≤i) (d:Int):memB (cur.take n) d=memB l d:=by rw [← h.mem d,AP hi,mr,Bool.or_false]
theorem QL {l l':List PSpan} (hp:l'.Perm (jv l)) : ∀ k,k<l'.length→0≤(gD l' k).from_∧(gD l' k).from_<(gD l' k).to∧(gD l' k).to≤1048577:=fun k hk=>AQ (hp.mem_iff.1 (iQ hk))
noncomputable def iT (l:List PSpan):List PSpan:=nf (memB l)
theorem Fz {l r:List PSpan} (h:NrmS r) (hm : ∀ d,memB r d=memB (jv l) d):r=iT l:=O5 h fun d=>by grind [Cb]
theorem LG {l:List PSpan} (h:jv l = []) : []=iT l:=Fz xa fun d=>by grind
end Go.Ev
namespace Go.Ev
open Go
theorem Iu {zs:List Int} (hs:zs.Pairwise fun a b=>a≤b):(bU zs).Pairwise (fun a b=>a<b)∧∀ z,z∈bU zs↔z∈zs:=by
 generalize hd:zs.toArray=d;have hsz:d.size=zs.length:=by grind
 have hx : ∀ j (hj:j<zs.length),d[j]! = zs[j]:=fun j hj=>by grind
 have mono : ∀ i j,i≤j→j<zs.length→d[i]!≤d[j]!:=fun i j hij hj=>by
  rcases fV i j with q | q
  ·rw [hx i (by omega),hx j hj];exact EU.1 hs i j (by omega) hj q
  grind
 have key : ∀ m,m≤zs.length→(Lib.compactUpTo d m).Pairwise (fun a b=>a<b)∧(∀ z,z∈Lib.compactUpTo d m→∃ j,j<m∧z=d[j]!)∧∀ j,j<m→d[j]!∈Lib.compactUpTo d m:=by
  intro m;induction m with
  | zero=>simp_all [Lib.compactUpTo]
  | succ m ih=>
   intro hm;obtain ⟨h1,h2,h3⟩:=ih (by omega);rw [Lib.compactUpTo_succ];cases hk:Lib.keeps d m with
   | true=>
    simp only [if_true];have hk':m=0∨d[m]!≠d[m - 1]!:=by grind [Lib.keeps]
    refine ⟨List.pairwise_append.2 ⟨h1,by simp,fun a ha b hb=>?_⟩,fun z hz=>?_,fun j hj=>?_⟩
    ·obtain ⟨j,hj,rfl⟩:=h2 a ha;have hb:b=d[m]!:=by simp_all
     subst hb;have e1:=mono j (m - 1) (by omega) (by omega);have e2:=mono (m - 1) m (by omega) (by omega);omega
    all_goals grind
   | false=>
    simp only [gK,if_false,ed];have hk' : ¬ (m=0∨d[m]!≠d[m - 1]!):=by grind [Lib.keeps]
    grind
 obtain ⟨h1,h2,h3⟩:=key zs.length (af _);have e:bU zs=Lib.compactUpTo d zs.length:=by grind [bU,Lib.compact]
 rw [e];refine ⟨h1,fun z=>⟨fun hz=>?_,fun hz=>?_⟩⟩
 ·grind
 ·obtain ⟨j,hj,rfl⟩:=Ez hz;simp_all
theorem NrmS.at {l:List PSpan} (h:NrmS l) {j k:Nat} (hjk:j<k) (hk:k<l.length):(gD l j).to<(gD l k).from_:=by
 have:=EU.1 h.gap j k (by omega) hk hjk;grind [gD]
theorem NrmS.okAt {l:List PSpan} (h:NrmS l) {k:Nat} (hk:k<l.length):0≤(gD l k).from_∧(gD l k).from_<(gD l k).to∧(gD l k).to≤1048577:=h.ok _ (iQ hk)
theorem Sn {l:List PSpan} {d:Int} : memB l d=true↔∃ k,k<l.length∧(gD l k).from_≤d∧d<(gD l k).to:=by
 rw [jx];constructor
 ·rintro ⟨s,h1,h2⟩
  obtain ⟨k,hk,e⟩:=Ez h1;have:gD l k=s:=by grind [gD]
  grind
 grind [iQ]
theorem Cy {a b:Int} : ab (gw a b) 0=true↔a=b:=by
 unfold gw;cases h:ar a b with
 | true => have:=ap h;constructor
           ·intro h;cases h
           omega
 | false=>
  have:=aF h;cases h2:ar b a with
  | true => have:=ap h2;constructor
            ·intro h;cases h
            omega
  | false=>have:=aF h2;exact ⟨fun _=>by omega,fun _=>rfl⟩
theorem Sm {l:List PSpan} (h:NrmS l) (d:Int):ie l d=memB l d:=by
 have hi:=z8 (d:=d) h.sort;have hc:=DA l d;rw [Cu,Sn];unfold ie IW;simp only [sr,bK];constructor
 ·rintro (⟨h1,h2⟩ | ⟨h1,h2⟩)
  ·have h1:=ap h1;simp only [aI] at h1;have h2:=Cy.1 h2;have:=h.okAt (k:=nE l d) (by omega);grind
  ·have h1:=ap h1;have h2:=ap h2;simp only [aI] at h1;have h3:=ap ((hi (nE l d - 1) (by omega)).2 (by omega));grind
 ·rintro ⟨k,hk,h1,h2⟩
  by_cases e:(gD l k).from_=d
  ·left;have e1 : ¬ k<nE l d:=fun q=>by have:=ap ((hi k hk).2 q);omega
   have e2 : ¬ nE l d<k:=fun q=>by
    have h3:=h.at q hk;have h4:=h.okAt (k:=nE l d) (by omega);grind [nJ]
   have e3:nE l d=k:=by omega
   rw [e3];exact ⟨nJ (by simp_all),Cy.2 e⟩
  ·right;have e1:k<nE l d:=(hi k hk).1 (nJ (by omega));have e2 : ¬ k+1<nE l d:=fun q=>by
    have h3:=h.at (j:=k) (k:=k+1) (by omega) (by omega);have:=ap ((hi (k+1) (by omega)).2 q);omega
   grind [nJ]
def pZ (l:List PSpan):List Int:=l.flatMap fun s=> [s.from_,s.to]
theorem Cx (s:PSpan) (r:List PSpan):pZ (s::r) = [s.from_,s.to]++pZ r:=by simp [pZ]
theorem kX : ∀ (l:List PSpan),(pZ l).length=2 * l.length
 | []=>rfl
 | s::r=>by rw [Cx];simp [kX r];omega
theorem Gy {l:List PSpan} {s:PSpan} (h:s∈l):s.from_∈pZ l∧s.to∈pZ l:=by
 unfold pZ;grind
def jR (g:Int→Bool):List Int→List PSpan
 | []=> []
 | a::r=>match r with
  | []=> []
  | b::_=>match g a with
   | true=>⟨a,b⟩::jR g r
   | false=>jR g r
theorem EN (g:Int→Bool) (a b:Int) (r:List Int):jR g (a::b::r)=match g a with | true=>⟨a,b⟩::jR g (b::r) | false=>jR g (b::r):=by rw [jR]
def ri:Int→List Int→Int
 | a, []=>a
 | _,b::r=>ri b r
theorem zX : ∀ {r:List Int} {a:Int},(a::r).Pairwise (fun a b=>a<b)→a≤ri a r∧∀ z,z∈r→z≤ri a r
 | [],a,_=>⟨Int.le_refl _,fun z h=>by grind⟩
 | b::r,a,h=>by
  obtain ⟨h1,h2⟩:=kx.1 h;have h3:=h1 b (fG ..);obtain ⟨k1,k2⟩:=zX h2;grind [ri]
theorem EO {g:Int→Bool} {C:List Int} (hg : ∀ x y,(∀ z,z∈C→z≤x∨y≤z)→∀ d,x≤d→d<y→g d=g x) :
  ∀ (r:List Int) (a:Int),(a::r).Pairwise (fun a b=>a<b)→(∀ z,z∈C→z≤a∨z∈r)→∀ d,memB (jR g (a::r)) d=(decide (a≤d∧d<ri a r) && g d)
 | [],a,_,_,d=>by
  have:decide (a≤d∧d<ri a [])=false:=by grind [ri]
  rw [this];rfl
 | b::r,a,hp,hC,d=>by
  obtain ⟨h1,h2⟩:=kx.1 hp;have hab:=h1 b (fG ..);obtain ⟨hb2,h3⟩:=kx.1 h2;have hl:=(zX h2).1;have ih:=EO hg r b h2 (fun z hz=>by grind) d;have hc : ∀ d,a≤d→d<b→g d=g a:=hg a b fun z hz=>by grind
  have e0:memB (jR g (a::b::r)) d=((g a && decide (a≤d∧d<b)) || memB (jR g (b::r)) d):=by
   rw [EN];cases g a with
   | true=>rw [eb,Bool.true_and]
   | false=>simp_all
  rw [e0,ih,show ri a (b::r)=ri b r from rfl];grind
def iW (A:List PSpan):List Int:=bU (dC (pZ A))
theorem KG (A:List PSpan):(iW A).Pairwise (fun a b=>a<b)∧∀ z,z∈iW A↔z∈pZ A:=by
 obtain ⟨h1,h2⟩:=Iu (CI (pZ A));exact ⟨h1,fun z=>(h2 z).trans (km (pZ A)).mem_iff⟩
theorem yL {A l:List PSpan} (hl : ∀ s,s∈l→s∈A) {x y:Int} (hz : ∀ z,z∈iW A→z≤x∨y≤z) {d:Int} (h1:x≤d) (h2:d<y):memB l d=memB l x:=by
 have key : ∀ s,s∈l→((s.from_≤d∧d<s.to)↔(s.from_≤x∧x<s.to)):=fun s hs=>by
  obtain ⟨k1,k2⟩:=Gy (hl s hs);grind [KG]
 rw [Cu,jx,jx];grind
theorem Ly {op:Bool→Bool→Bool} (h0:op false false=false) (A B:List PSpan) (d:Int):memB (jR (fun d=>op (memB A d) (memB B d)) (iW (A++B))) d=op (memB A d) (memB B d):=by
 obtain ⟨h1,h2⟩:=KG (A++B);have out : ∀ (z1 z2:Int),(∀ z,z∈iW (A++B)→z1≤z∧z≤z2)→¬ (z1≤d∧d<z2)→op (memB A d) (memB B d)=false:=fun z1 z2 hz hd=>by
  have no : ∀ l:List PSpan,(∀ s,s∈l→s∈A++B)→memB l d=false:=fun l hl=>by
   cases q:memB l d with
   | false=>rfl
   | true=>
    obtain ⟨s,k1,k2,k3⟩:=jx.1 q;obtain ⟨k4,k5⟩:=Gy (hl s k1);grind
  simp_all
 cases hC:iW (A++B) with
 | nil=>
  rw [jR,mr];exact (out (d+1) d (fun z hz=>by grind) (by omega)).symm
 | cons a r=>
  rw [hC] at h1;have hl:=zX h1;have hp:=(kx.1 h1).1;rw [EO (C:=iW (A++B)) (fun x y hz d h3 h4=>by
   show op (memB A d) (memB B d)=op (memB A x) (memB B x)
   rw [yL (A:=A++B) (fun s hs=>List.mem_append_left _ hs) hz h3 h4,yL (A:=A++B) (fun s hs=>I2 _ hs) hz h3 h4]) r a h1 (fun z hz=>by
   grind) d]
  by_cases q:a≤d∧d<ri a r;all_goals grind
theorem zN (A:List PSpan):(iW A).length≤2 * A.length:=by
 have:=wg (dC (pZ A));have h2:=(km (pZ A)).length_eq;grind [kX,iW]
theorem Bf {g:Int→Bool} {C:List Int} {x:Nat} (h1:1≤x) (h2:x<C.length):jR g (C.drop (x - 1))=match g (gD C (x - 1)) with | true=>⟨gD C (x - 1),gD C x⟩::jR g (C.drop (x+1 - 1)) | false=>jR g (C.drop (x+1 - 1)):=by grind [Dl,EN]
theorem kL {g:Int→Bool} {C:List Int} {x:Nat} (h1:1≤x) (h2:C.length≤x):jR g (C.drop (x - 1)) = []:=by
 have:(C.drop (x - 1)).length≤1:=by simp_all
 match C.drop (x - 1),this with
 | [],_=>rfl
 | [_],_=>rfl
 | _::_::_,h=>simp_all
noncomputable def ru (op:Bool→Bool→Bool) (a b:List PSpan):List PSpan:=nf fun d=>op (memB a d) (memB b d)
theorem mU (l:List PSpan):NrmS (iT l):=yE _
theorem BE (l:List PSpan) (d:Int):memB (iT l) d=(Nf d && memB l d):=HS _ d
theorem M9 {op:Bool→Bool→Bool} (h0:op false false=false) {a b A B:List PSpan} (hA:iT a=A) (hB:iT b=B):iT (jR (fun d=>op (ie A d) (ie B d)) (iW (A++B)))=ru op a b:=by
 have nA:NrmS A:=hA ▸ mU a;have nB:NrmS B:=hB ▸ mU b;have e:(fun d=>op (ie A d) (ie B d))=fun d=>op (memB A d) (memB B d):=funext fun d=>by grind [Sm]
 rw [e];unfold iT ru;refine O6 fun d hd=>?_
 rw [Ly h0,← hA,← hB,BE,BE,hd,Bool.true_and,Bool.true_and]
end Go.Ev
namespace Go.Ev
open Go
section
variable {H : Type} {enc : TypeId × Value → H} {P : Program} {w : World} {base : Nat} {spare : Nat → Bool} {held : Bool}
inductive VL (M:di):List AV→List Value→Prop
 | nil:VL M [] []
 | cons {x:AV} {v:Value} {xs:List AV} {vs:List Value} (h:VRel (fun _=>none) M x v) (t:VL M xs vs):VL M (x::xs) (v::vs)
theorem VL.append {M:di} {xs ys:List AV} {a b:List Value} (h:VL M xs a) (k:VL M ys b):VL M (xs++ys) (a++b):=by
 induction h with
 | nil=>grind
 | cons h _ ih=>exact .cons h ih
theorem VL.at_ {M:di} {xs:List AV} {a:List Value} (h:VL M xs a) : ∀ (j:Nat) (y:AV),xs[j]? = some y→∃ v,a[j]? = some v∧VRel (fun _=>none) M y v:=by
 induction h with
 | nil=>simp_all
 | cons h _ ih=>grind
theorem VL.one {M:di} {x:AV} {cs:List Value} (h:VL M [x] cs) : ∃ v,cs = [v]∧VRel (fun _=>none) M x v:=by
 cases h with
 | cons h t=>cases t;simp_all
def Wt (P:Program) (t:TypeId) (d:DataW H):Prop:=∀ m,m∈d.weights P t→m≤reachBytes
theorem pH {e:TypeId} {d:DataW H} {m:Nat} (hm:m∈d.weights P e) : ∀ {l:List (DataW H)},d∈l→m∈DataW.weightsAll P e l
 | [],h=>by grind
 | a::r,h=>by
  unfold DataW.weightsAll;rcases fz.1 h with rfl | h
  ·simp_all
  ·exact I2 _ (pH hm h)
theorem lm {t:TypeId} {d:DataW H} {m:Nat} (hm:m∈d.weights P t) : ∀ {ts:List TypeId} {l:List (DataW H)} (i:Nat),ts[i]? = some t→l[i]? = some d→m∈DataW.weightsEach P ts l
 | [],_,i,h,_=>by simp_all
 | _::_, [],i,_,h=>by simp_all
 | u::ts,a::r,i,h1,h2=>by
  unfold DataW.weightsEach;cases i with
  | zero=>simp_all
  | succ i=>exact I2 _ (lm hm i (by simp_all) (by simp_all))
def Du (P:Program):List Field→Nat→Nat→Bool
 | [],off,n=>Nat.beq off n
 | f::r,off,n=>Nat.beq f.offset off && Du P r (off+P.cellsOf f.type) n
def VF (M:di) (P:Program) (cs:List Value):List Field→List (List AV)→Prop
 | [], []=>True
 | f::fs,xs::xss=>VL M xs ((cs.drop f.offset).take (P.cellsOf f.type))∧VF M P cs fs xss
 | _,_=>False
theorem VF.vl {M:di} {cs:List Value} : ∀ {fs:List Field} {xss:List (List AV)} {off:Nat},Du P fs off cs.length=true→VF M P cs fs xss→VL M xss.flatten (cs.drop off)
 | [], [],off,h,_=>by
  have:=pz h;rw [this,List.drop_length];exact .nil
 | [],_::_,_,_,h=>h.elim
 | _::_, [],_,_,h=>h.elim
 | f::fs,xs::xss,off,h,k=>by
  unfold Du at h;rw [bK] at h;have ho:=pz h.1;have h1:=k.1;rw [ho] at h1;have h2:=VF.vl h.2 k.2;have e:cs.drop off=(cs.drop off).take (P.cellsOf f.type)++cs.drop (off+P.cellsOf f.type):=by grind [List.drop_drop,List.take_append_drop]
  rw [List.flatten_cons,e];exact h1.append h2
def TF (enc:TypeId × Value→H) (P:Program) (w:World) (base:Nat) (spare:Nat→Bool) (held:Bool) (n:Nat) (cs:List Value):List Field→Prop
 | []=>True
 | f::fs=>(∃ d p,DataW.trod enc P w base spare held n f.type ((cs.drop f.offset).take (P.cellsOf f.type))=some (d,p)∧Wt P f.type d)∧TF enc P w base spare held n cs fs
theorem Us {n:Nat} {cs:List Value} : ∀ (fs:List Field),(∀ (i:Nat) (f:Field),fs[i]? = some f→∃ d p,DataW.trod enc P w base spare held n f.type ((cs.drop f.offset).take (P.cellsOf f.type))=some (d,p)∧Wt P f.type d)→TF enc P w base spare held n cs fs
 | [],_=>trivial
 | f::fs,h=>⟨h 0 f rfl,Us fs fun i g hg=>h (i+1) g (by simp_all)⟩
theorem iH {t:TypeId} {fs:Array Field} {fuel:Nat} {cs:List Value} {d:DataW H} {p:List MemPlace} (hu:P.underlying t=some (.struct fs)) (hc:Du P fs.toList 0 (P.cellsOf t)=true)
  (h:DataW.trod enc P w base spare held fuel t cs=some (d,p)) (hw:Wt P t d) :
  ∃ n,fuel=n+1∧TF enc P w base spare held n cs fs.toList∧∀ xss,VF (cW w) P cs fs.toList xss→VL (cW w) xss.flatten cs:=by
 obtain ⟨xs,n,rfl,h1,h2,h3,h4⟩:=DataW.trod_struct hu h;simp only [so] at h1;obtain ⟨rfl,_⟩:=h1;refine ⟨n,rfl,Us _ fun i f hf=>?_,fun xss hx=>?_⟩
 ·have hf':fs[i]? = some f:=by simp_all
  have hi:i<xs.length:=by grind
  have e:=h4 i f hf';rw [kR hi] at e;refine ⟨xs[i].1,xs[i].2,e,fun m hm=>hw m ?_⟩;unfold DataW.weights;rw [hu];exact lm hm i (by simp_all) (by grind)
 ·have:=VF.vl (off:=0) (by simp_all) hx;simp_all
theorem gx {t:TypeId} {fuel:Nat} {cs:List Value} {d:DataW H} {p:List MemPlace} (hu:P.underlying t=some (.int .i64)) (h:DataW.trod enc P w base spare held fuel t cs=some (d,p)) : ∃ x,VL (cW w) [.int .i64 x] cs:=by
 obtain ⟨x,rfl,_⟩:=DataW.trod_int hu h;exact ⟨x, .cons (.int _ _) .nil⟩
theorem na {t:TypeId} {fuel:Nat} {cs:List Value} {d:DataW H} {p:List MemPlace} (hu:P.underlying t=some .string) (h:DataW.trod enc P w base spare held fuel t cs=some (d,p)) : ∃ s,VL (cW w) [.str s] cs:=by
 obtain ⟨⟨⟨s⟩⟩,rfl,_⟩:=DataW.trod_string hu h;exact ⟨s, .cons (.str _) .nil⟩
theorem JR {α:Type} {Q:Nat→α→Prop} : ∀ (n:Nat),(∀ i,i<n→∃ x,Q i x)→∃ l:List α,l.length=n∧∀ i x,l[i]? = some x→Q i x
 | 0,_=>⟨[],rfl,fun i x h=>by simp_all⟩
 | n+1,h=>by
  obtain ⟨l,h1,h2⟩:=JR n fun i hi=>h i (by omega)
  obtain ⟨y,hy⟩:=h n (by omega);refine ⟨l++ [y],by simp_all,fun i x hx=>?_⟩;grind
theorem XS {x:AV} (h:x.cells.all cF=true):Sc x:=fun y hy=>nH.1 h y hy
theorem Ho {α:Type} (el:α→AV) (fit:α→Prop) {t e:TypeId} {fuel:Nat} {cs:List Value} {d:DataW H} {p:List MemPlace} (hu:P.underlying t=some (.slice e)) (hsz:Nat.blt 0 (P.cellsOf e)=true) (hby:Nat.blt 0 (P.bytesOf e)=true)
  (hel : ∀ x,(el x).cells.length=P.cellsOf e) (hsc : ∀ x,(el x).cells.all cF=true) (htop : ∀ x,(el x).top=0)
  (hrec : ∀ m,m<fuel→∀ cs d p,DataW.trod enc P w base spare held m e cs=some (d,p)→Wt P e d→∃ x,fit x∧VL (cW w) (el x).cells cs)
  (h:DataW.trod enc P w base spare held fuel t cs=some (d,p)) (hw:Wt P t d) :
  ∃ l:List α,l.length<2 ^ 47∧(∀ x,x∈l→fit x)∧VL (cW w) [.ls (l.map el)] cs:=by
 rw [de] at hsz hby;simp only [decide_eq_true_eq] at hsz hby;rcases DataW.trod_slice hu h with ⟨rfl,_⟩ | ⟨a,len,cap,elems,rest,n,rfl,rfl,h1,h2,h3,h4,h5,h6,_,_⟩
 ·exact ⟨[],Nat.two_pow_pos 47,fun x h=>absurd h (List.not_mem_nil), .cons .lsn .nil⟩
 ·simp only [so] at h1;obtain ⟨rfl,_⟩:=h1;have hwl:len<2 ^ 47:=by
   have:=hw ((elems.length+rest.length) * P.bytesOf e) (by grind [DataW.weights]);have h7:elems.length≤(elems.length+rest.length) * P.bytesOf e:=bI (Nat.le_add_right _ _) (Nat.le_mul_of_pos_right _ hby);have:elems.length≤reachBytes:=bI h7 this;rw [h5] at this;exact nG this (by decide)
  have el0 : ∀ i,i<len→∃ x,fit x∧∃ cs:List Value,cs.length=P.cellsOf e∧(∀ j,j<P.cellsOf e→w.cell? ((a.add (i * P.cellsOf e)).add j)=cs[j]?)∧VL (cW w) (el x).cells cs:=by
   intro i hi;have k5:=h6 i hi;have hi':i<elems.length:=by omega
   rw [kR hi'] at k5;simp only [Option.bind_eq_some_iff] at k5;obtain ⟨cs,c1,c2⟩:=k5;obtain ⟨z1,z2⟩:=Cd c1;obtain ⟨x,f1,f2⟩:=hrec n (by omega) cs elems[i].1 elems[i].2 c2 (fun m hm=>hw m (by
    unfold DataW.weights;rw [hu];exact fy _ (List.mem_append_left _ (pH hm (jr.2 ⟨elems[i],Ct hi',rfl⟩)))))
   grind
  obtain ⟨l,q1,q2⟩:=JR len el0;refine ⟨l,by omega,fun x hx=>?_, .cons ?_ .nil⟩
  ·obtain ⟨i,hi⟩:=Ey.1 hx;grind
  ·have q1':(l.map el).length=len:=by simp_all
   generalize hys:l.map el=ys at *;have q3 : ∀ i y,ys[i]? = some y→∃ cs:List Value,cs.length=P.cellsOf e∧(∀ j,j<P.cellsOf e→w.cell? ((a.add (i * P.cellsOf e)).add j)=cs[j]?)∧VL (cW w) y.cells cs:=by grind
   have q4 : ∀ y,y∈ys→y.cells.length=P.cellsOf e∧Sc y:=by grind [XS]
   have q5:aq ys=0:=by grind [aX]
   have addadd : ∀ i j:Nat,a.spot=none→(a.add i).add j=⟨a.block,a.off+i+j,none⟩:=by
    intro i j hs;obtain ⟨blk,off,spot⟩:=a;grind [Addr.add]
   have spot:ys≠ []→a.spot=none:=by
    intro hne;obtain ⟨x,hx⟩ : ∃ x,ys[0]? = some x:=by
     cases ys with
     | nil=>simp_all
     | cons x r=>exact ⟨x,rfl⟩
    grind [rX,Addr.add]
   have cell : ∀ (i j:Nat) (x:AV),ys[i]? = some x→j<P.cellsOf e→∃ c v,cW w a.block=some c∧c[a.off+i * P.cellsOf e+j]? = some v∧∀ y,x.cells[j]? = some y→VRel (fun _=>none) (cW w) y v:=by
    intro i j x hx hj;obtain ⟨cs,c1,c2,c3⟩:=q3 i x hx;have:=c2 j hj;rw [kR (by omega),addadd _ _ (spot (by grind))] at this;obtain ⟨_,c,m1,m2⟩:=rX this;refine ⟨c,_,m1,m2,fun y hy=>?_⟩;obtain ⟨v,g1,g2⟩:=c3.at_ j y hy;simp_all
   refine .lsp ?_ q5;by_cases hne:ys = []
   ·subst hne;simp at q1';subst q1';exact .ps (sz:=P.cellsOf e) (c:=#[]) (by simp) (fun h=>by grind) (fun h=>absurd rfl h) (fun x h=>by simp_all) (fun i x j y h=>by simp_all)
   ·have hlen:0<ys.length:=pC.2 hne;obtain ⟨x0,hx0⟩ : ∃ x,ys[ys.length - 1]? = some x:=⟨ys[ys.length - 1],by simp⟩
    obtain ⟨c,v0,m1,m2,_⟩:=cell (ys.length - 1) (P.cellsOf e - 1) x0 hx0 (by omega);have hc:=(vn.1 m2).1;have hfit:a.off+ys.length * P.cellsOf e≤c.size:=by
     have h1:(ys.length - 1) * P.cellsOf e+P.cellsOf e=ys.length * P.cellsOf e:=by rw [← pE];grind
     omega
    have:=VRel.ps (pl:=fun _=>none) (M:=cW w) (xs:=ys) (tight:=false) (a:=a) (cap:=cap) (sz:=P.cellsOf e) (c:=c) (by omega) (fun h=>by grind) (fun _=>⟨spot hne,m1,hfit,hsz⟩) q4
     (fun i x j y hx hy=>by
      obtain ⟨r1,_⟩:=q4 x (bi hx);have hj:j<P.cellsOf e:=by grind
      obtain ⟨c',v,n1,n2,n3⟩:=cell i j x hx hj;simp_all)
    simp_all
theorem kS {α:Type} (el:α→AV) (fit:α→Prop) {t e:TypeId} {fuel:Nat} {cs:List Value} {d:DataW H} {p:List MemPlace} (hu:P.underlying t=some (.slice e)) (hsz:Nat.blt 0 (P.cellsOf e)=true) (hby:Nat.blt 0 (P.bytesOf e)=true)
  (hel : ∀ x,(el x).cells.length=P.cellsOf e) (hsc : ∀ x,(el x).cells.all cF=true) (htop : ∀ x,(el x).top=0)
  (hrec : ∀ m,m<fuel→∀ cs d p,DataW.trod enc P w base spare held m e cs=some (d,p)→Wt P e d→∃ x,fit x∧VL (cW w) (el x).cells cs)
  (h:DataW.trod enc P w base spare held fuel t cs=some (d,p)) (hw:Wt P t d) :
  ∃ l:List α,l.length<2 ^ 60∧(∀ x,x∈l→fit x)∧VL (cW w) [.ls (l.map el)] cs:=by
 have ⟨l,h1,h2⟩:=Ho el fit hu hsz hby hel hsc htop hrec h hw;grind
end
end Go.Ev
namespace Go.Ev
open Go
structure PPair where
 a:Int
 b:Int
deriving Inhabited,DecidableEq
structure PRef where
 act:Int
 item:Int
deriving Inhabited,DecidableEq
def m9 (u:TUnit):List PWord:=u.head++u.words
mutual
def mT:TUnit→List PWord
 | ⟨_,_,_,_,_,h,w,ks⟩=>(h++w)++ke ks
def ke:List TUnit→List PWord
 | []=> []
 | k::r=>mT k++ke r
end
theorem K3 (u:TUnit):mT u=m9 u++ke u.kids:=by obtain ⟨a,b,c,d,e,h,w,ks⟩:=u;rw [mT];rfl
theorem Cp:ke [] = []:=by rw [ke]
theorem sg (k:TUnit) (r:List TUnit):ke (k::r)=mT k++ke r:=by rw [ke]
theorem oZ {k:Int} : ∀ {m:List (Int × Int)},gy k m=none→¬ k∈m.map (·.1)
 | [],_=>by simp
 | (i,x)::r,h=>by
  simp only [gy] at h;cases e:ab k i with
  | true=>grind
  | false=>
   rw [e] at h;have:=oZ h;grind [CY]
section
variable {u w' : TUnit} {ws : List PWord} {w : PWord} {r : List PWord} {ks : List TUnit} {m x : List (Int × Int)} {c B : Int}
end
theorem VRel.ls0 {pl:Pl} {M:di} {x:Value} (h:VRel pl M (.ls []) x):VRel pl M .nils x∨VRel pl M (.ps [] false) x:=by
 cases h with
 | lsn=>exact .inl .nils
 | lsp h _=>simp_all
theorem EX {P:Program} {G:ei} {f:FuncId} {a b c:List AV} {h:AHeap} {Ψ:AV→AHeap→Prop} (hs : ∀ pl M vs,VRels pl M c vs→VRels pl M a vs∨VRels pl M b vs) (h1:aC P G f a h Ψ) (h2:aC P G f b h Ψ):aC P G f c h Ψ:=fun pl M w vs hg hr hv=>(hs pl M vs hv).elim (h1 pl M w vs hg hr) (h2 pl M w vs hg hr)
theorem VRels.first {pl:Pl} {M:di} {x y z:AV} {r:List AV} {vs:Array Value} (h:VRels pl M (z::r) vs) (hs : ∀ v,VRel pl M z v→VRel pl M x v∨VRel pl M y v):VRels pl M (x::r) vs∨VRels pl M (y::r) vs:=by
 obtain ⟨h1,h2⟩:=h;have lift : ∀ u,VRel pl M u (vs.getD 0 undef)→VRels pl M (u::r) vs:=fun u hu=>⟨h1,fun j y hj=>by
  cases j with
  | zero=>grind
  | succ j=>simp_all⟩
 exact (hs _ (h2 0 z rfl)).imp (lift x) (lift y)
end Go.Ev
namespace Go.Ev
open Go
theorem aE {n b m:Nat} (h1:n≤m) (h2:m≤2 ^ 40) (h3:m * b≤2 ^ 40):small n b=true:=by
 unfold small;have h4:n * b≤m * b:=ef b h1;grind [Nat.ble_eq_true_of_le]
def XX (d:Int):List Int→List Int
 | []=> [d]
 | x::r=>bif ar x d then x::XX d r else bif ab x d then x::r else d::x::r
def eg (ws:List PWord) (l:List Int):List Int:=ws.foldl (fun l w=>XX w.act l) l
end Go.Ev
namespace Go.Ev
open Go
def RT {α:Type} : Result α→World
 | .ok _ w=>w
 | .halt _ w=>w
def gW:GStep→World
 | .go _ w _=>w
 | .comm _ _ _ _ w _=>w
 | .spawn _ _ w _=>w
 | .count _ w _=>w
 | .timer _ _ w _=>w
 | .alone _ _ w _=>w
 | .newcoro _ _ _ w _=>w
 | .coroswitch _ _ _ w _=>w
 | .collect _ w _=>w
 | .watch _ w _=>w
 | .ended _ w _=>w
theorem lJ (es:Array Event) (g:GStep):gW (GStep.after es g)=gW g:=by cases g <;> rfl
theorem IG {α:Type} : ∀ (q:Ask α) (w:World),w.drawn≤(w.ask q).2.drawn
 | .done a,w=>af _
 | .ask what range k,w=>by
  rw [World.ask];split
  ·exact IG (k 0) w
  ·exact bI (nL _) (IG _ { w with drawn:=w.drawn+1 })
theorem N1 (w:World) (c:Sys):w.drawn≤(w.sys c).2.drawn:=by
 unfold World.sys;have h:=IG (Kernel.perform c w.os) w;grind
theorem wF {p:Program} {w w':World} {at_:Addr} {u:TypeId} {k:Addr} {v:Value} {b:Bool} {l:List Addr} (h:w.viewStore p at_ u k v b = .ok (w',l)):w'.drawn=w.drawn:=by
 unfold World.viewStore at h;simp only [bind,Except.bind,pure,Except.pure] at h
 repeat' split at h
 all_goals first | cases h;done | (injection h with h;injection h with h1 h2;rw [← h1])
theorem zi {p:Program} {w w':World} {a:Addr} {v:Value} {b:Bool} {l:List Addr} (h:w.farStore p a v b = .ok (w',l)):w'.drawn=w.drawn:=by
 unfold World.farStore at h
 repeat' split at h
 all_goals first | cases h;done | grind [wF]
theorem Db (w:World) (a:Addr) (n:Nat):(w.freeze a n).drawn=w.drawn:=by unfold World.freeze;grind
theorem Oq (p:Program) {α:Type} (s:Sem α) : ∀ (w:World),w.drawn≤(RT (s.run p w)).drawn:=by
 induction s with
 | pure a=>exact fun w=>af _
 | load m a k ih=>
  intro w;simp only [Sem.run]
  repeat' split
  all_goals first | exact ih _ _ | exact af _
 | store m a v k ih=>
  intro w;cases v
  all_goals simp only [Sem.run]
  all_goals first
   | exact af _
   | ((repeat' split);all_goals first | exact af _ | exact ih (w.setCell _ _) | (rename_i e;refine bI ?_ (ih _);rw [zi e];exact af _))
 | new o k ih=>grind [Sem.run]
 | shape r k ih=>grind [Sem.run]
 | freeze a n k ih=>intro w;simp only [Sem.run];refine bI ?_ (ih _);simp_all [Db]
 | frozen a k ih=>grind [Sem.run]
 | getObj r k ih=>
  intro w;simp only [Sem.run]
  repeat' split
  all_goals first | exact ih _ _ | exact af _
 | setObj r o k ih=>
  intro w;simp only [Sem.run]
  repeat' split
  all_goals first | exact ih { w with heap:=w.heap.setIfInBounds r o } | exact af _
 | choose q k ih=>
  intro w;simp only [Sem.run];grind
 | sys c k ih=>grind [Sem.run,N1]
 | program k ih=>grind [Sem.run]
 | mark m k ih=>grind [Sem.run]
 | halt h=>exact fun w=>af _
theorem cC {p:Program} {α:Type} {s:Sem α} {w:World} {r:Result α} (h:s.run p w=r):w.drawn≤(RT r).drawn:=h ▸ Oq p s w
theorem RP {p:Program} {α:Type} {s:Sem α} {w:World} {es es':Array Event} {r:Result α} (h:s.runT p w es=(r,es')):w.drawn≤(RT r).drawn:=by
 have:=Sem.runT_fst p s w es;rw [h] at this;exact cC this.symm
theorem Im (w:World) (fd:Nat) (text:ByteArray) (o:Outcome):w.drawn≤(gW (endWith w fd text o)).drawn:=by
 unfold endWith;simp only [];have h:=N1 w (.write fd text);split;all_goals (rename_i e;rw [e] at h)
 all_goals repeat' split
 all_goals exact h
theorem wy (fr:Frame) (m:String) (w:World):w.drawn≤(gW (endThrow fr m w)).drawn:=af _
theorem qg (p:Program) (fr:Frame) (v:Value) (w:World):w.drawn≤(gW (endPrinting p fr v w)).drawn:=by
 unfold endPrinting;simp only []
 repeat' split
 all_goals exact af _
theorem wa (p:Program) (fr:Frame) (cs:List Frame) (d:Option Dying) (m:String) (w:World):w.drawn≤(gW (endFatal p fr cs d m w)).drawn:=by
 unfold endFatal;simp only [];split;all_goals (rename_i e;exact cC e)
theorem Hq (p:Program) (fr:Frame) (d:Dying) (f:Fatal) (w:World):w.drawn≤(gW (writeOn p fr d f w)).drawn:=by
 unfold writeOn;split
 ·exact af _
 ·simp only [];split;all_goals (rename_i e;exact RP e)
theorem V7 (p:Program) (fr:Frame) (d:Dying) (w:World):w.drawn≤(gW (die p fr d w)).drawn:=by
 unfold die;split
 ·grind [Hq]
 ·split
  ·split
   ·exact af _
   grind [Im]
  ·simp only [];split
   ·exact af _
   ·split;all_goals (rename_i e;exact cC e)
   ·rw [lJ];split;all_goals first | (rename_i e;exact cC ((Sem.runT_fst ..).symm.trans e)) | skip
    ·rename_i e;exact bI (cC ((Sem.runT_fst ..).symm.trans e)) (qg ..)
    ·exact af _
   ·exact af _
theorem qi (p:Program) (main:Bool) (fr:Frame) (cs:List Frame) (d:Option Dying) (v:Value) (w:World):w.drawn≤(gW (doReturn p main fr cs d v w)).drawn:=by
 unfold doReturn
 repeat' split
 all_goals exact af _
theorem sx {c:Prop} [Decidable c] {a b:GStep} {n:Nat} (h1:n≤(gW a).drawn) (h2:n≤(gW b).drawn):n≤(gW (if c then a else b)).drawn:=by grind
theorem wS (p:Program) (fr:Frame) (cs:List Frame) (dy:Option Dying) (d:Deferred) (w:World):w.drawn≤(gW (callDeferred p fr cs dy d w)).drawn:=by
 unfold callDeferred;refine sx ?_ ?_
 ·exact af _
 ·simp only [];rw [lJ];split;all_goals (rename_i e;have h:=cC ((Sem.runT_fst ..).symm.trans e))
  all_goals first | exact h | exact bI h (wa ..) | ((repeat' split) <;> exact h)
theorem LX (p:Program) (main:Bool) (fr:Frame) (cs:List Frame) (dy:Option Dying) (w:World):w.drawn≤(gW (unwind p main fr cs dy w)).drawn:=by
 unfold unwind;split
 ·simp only [];rw [lJ];split;all_goals (rename_i e;exact cC ((Sem.runT_fst ..).symm.trans e))
 ·grind [wS]
 ·split
  ·exact af _
  ·split
   ·exact af _
   ·split
    ·exact af _
    ·split
     ·split
      ·exact af _
      ·split;all_goals (rename_i e;exact cC e)
     ·split
      ·grind [qg]
      ·exact af _
  ·split
   ·grind [qi]
   ·simp only [];rw [lJ];split;all_goals (rename_i e;have h:=cC ((Sem.runT_fst ..).symm.trans e))
    all_goals first | exact h | exact bI h (qi ..)
theorem Qb (p:Program) (fr:Frame) (cs:List Frame) (dy:Option Dying) (g:Nat) (w:World):w.drawn≤(gW (early p fr cs dy g w)).drawn:=by
 unfold early;simp only []
 repeat' split
 all_goals first | exact af _ | (rename_i e;exact cC e) | (rename_i e _;exact cC e) | (rename_i e _ _;exact cC e) | (rename_i e _ _ _ _;exact cC e)
theorem uU (p:Program) (listen:Bool) (fr:Frame) (cs:List Frame) (dy:Option Dying) (s:Sem Next) (w:World):w.drawn≤(gW (stepG.apply p listen fr cs dy s w)).drawn:=by
 unfold stepG.apply;simp only [];rw [lJ];have h0:w.drawn≤(RT (if listen=true then Sem.runT p s w #[] else (Sem.run p s w,#[])).fst).drawn:=by
  cases listen
  ·grind [Oq]
  ·exact cC (Sem.runT_fst ..).symm
 generalize (if listen=true then Sem.runT p s w #[] else (Sem.run p s w,#[])).fst=r at h0 ⊢;split;all_goals first | exact h0 | exact bI h0 (wa ..) | exact bI h0 (Qb ..) | exact bI h0 (wy ..) | skip
 all_goals repeat' split
 all_goals first | exact h0 | exact bI h0 (wy ..) | skip
theorem Sq (p:Program) (listen:Bool) (fr:Frame) (cs:List Frame) (dy:Option Dying) (w:World):w.drawn≤(gW (stepG.oper p listen fr cs dy w)).drawn:=by
 unfold stepG.oper;split
 ·exact af _
 ·split;all_goals exact uU ..
theorem Td (p:Program) (main listen:Bool) (fr:Frame) (cs:List Frame) (dy:Option Dying) (w:World):w.drawn≤(gW (stepG.exec p main listen fr cs dy w)).drawn:=by
 have lv : ∀ (l : Nat) (jump : Option Code), w.drawn ≤ (gW (GStep.after (seen p fr.fn ((Instr.endRound l jump).runT p w #[]).snd) (match ((Instr.endRound l jump).runT p w #[]).fst with | .ok v w => doReturn p main fr cs dy v w | .halt _ w => .ended (.stuck "range over a function: no such loop" (fr.pos p)) w))).drawn := by
  intro l jump;rw [lJ];have h0:=cC (Sem.runT_fst p (Instr.endRound l jump) w #[]).symm;split;all_goals (rename_i e;rw [e] at h0)
  ·exact bI h0 (qi ..)
  ·exact h0
 unfold stepG.exec;simp only [];split;all_goals first | exact af _ | exact uU .. | skip
 ·split
  ·exact sx (af _) (af _)
  grind
 ·split
  ·exact sx (af _) (af _)
  grind
 ·split <;> exact af _
 ·rename_i id k _;cases exitTo id k with
  | none=>simp only [Option.elim];split;exact sx (af _) (af _);grind
  | some k'=>exact af _
 ·rename_i id k _;cases gotoIn id k with
  | none=>simp only [Option.elim];split;exact sx (af _) (af _);grind
  | some k'=>exact af _
 ·rw [lJ];split
  ·rename_i e;exact bI (cC ((Sem.runT_fst ..).symm.trans e)) (uU ..)
  ·rename_i e;exact cC ((Sem.runT_fst ..).symm.trans e)
 ·rw [lJ];split <;> rename_i e <;> exact cC ((Sem.runT_fst ..).symm.trans e)
 ·rename_i row _ _ _;cases Extern.next row with
  | none=>exact af _
  | some e=>grind [uU]
 ·refine sx (af _) ?_;split <;> rename_i e <;> exact cC e
 ·exact sx (Sq ..) (af _)
theorem N4 (p:Program) (main listen:Bool) (g:Goroutine) (w:World):w.drawn≤(gW (stepG p main g w listen)).drawn:=by
 unfold stepG;grind [V7,Td,LX]
def sD (n:Nat):Stepped→Prop
 | .next m=>n≤m.world.drawn
 | .ended _ _=>True
theorem sD.trans {n k:Nat} {s:Stepped} (h:n≤k) (g:sD k s):sD n s:=by
 cases s with
 | next m=>exact bI h g
 | ended o w=>trivial
theorem Py {c:Prop} [Decidable c] {a b:Stepped} {n:Nat} (h1:sD n a) (h2:sD n b):sD n (if c then a else b):=by grind
theorem JP (p:Program) (gs:Array Goroutine) (rest:Rest) (w:World):sD w.drawn (look p gs rest w):=by
 unfold look;simp only [];split
 ·refine Py trivial ?_;split
  ·trivial
  ·split <;> rename_i e <;> first | exact cC e | trivial
 ·trivial
theorem wE {rest:Rest} {cases:Array CommCase} {w w':World} (h:waitingAt rest cases w=some w'):w'.drawn=w.drawn:=by
 unfold waitingAt at h
 repeat' split at h
 all_goals first | (cases h;done) | (cases h;rfl)
theorem Dx {c:Prop} [Decidable c] {a b:Stepped × Array MemOp} {n:Nat} (h1:sD n a.1) (h2:sD n b.1):sD n (if c then a else b).1:=by grind
theorem zT (p:Program) (rest:Rest) (gs:Array Goroutine) (i:Nat) (g:Goroutine) (cs:Array CommCase) (bl:Bool) (sh:CommShape) (w:World):sD w.drawn (communicate p rest gs i g cs bl sh w).1:=by
 unfold communicate;simp only [];refine Dx trivial (Dx (Dx ?_ (af _)) ?_)
 ·split
  ·rename_i e;exact vi (wE e).symm
  ·trivial
 ·split
  ·trivial
  ·rename_i w1 e;have h:w.drawn≤w1.drawn:=cC e;clear e;split
   ·split
    ·rename_i e;exact bI h (cC e)
    ·trivial
   ·exact h
   ·exact h
   ·split
    ·exact h
    ·split
     ·rename_i e;exact bI h (cC e)
     ·trivial
   ·exact h
   ·exact h
   ·trivial
theorem OK (p:Program) (m:Machine) (k:Nat):sD m.world.drawn (serve p m k):=by
 unfold serve;split
 ·trivial
 ·exact af _
 ·simp only [];split
  ·trivial
  ·exact af _
theorem Af {m m':Machine} {op:TimerOp} {v:Value} (h:timerOp m op = .ok (v,m')):m'.world.drawn=m.world.drawn:=by
 have rt : ∀ (m:Machine) (k:Nat) (t:Timer) (a b:Nat),(retime m k t a b).2.world.drawn=m.world.drawn:=by
  intro m k t a b;unfold retime drain;grind
 cases op with
 | new t=>
  simp only [timerOp] at h
  repeat' split at h
  all_goals first | (cases h;done) | (cases h;rfl)
 | stop var=>
  simp only [timerOp,timerOp.named] at h;grind
 | reset var a b=>
  simp only [timerOp,timerOp.named,timerOp.opened] at h;split at h
  ·rename_i e;have e2 : ∀ m2:Machine,(if waitedFor m var=true then match Kernel.withPoller m.world.os with | .ok os=>some { m with world:= { m.world with os } } | .error _=>none else some m)=some m2→m2.world.drawn=m.world.drawn:=by
    intro m2 e
    repeat' split at e
    all_goals first | (cases e;done) | (cases e;rfl)
   grind
  ·grind
 | deadline a b c d=>simp only [timerOp] at h;cases h;rfl
theorem RO (p:Program) (m:Machine) (i:Nat) (b:Bool):sD m.world.drawn (runT p m i b).1:=by
 unfold runT;simp only [];have h:=N4 p (i == 0) b (m.gs.swapAt! i { (default:Goroutine) with status:= .finished }).1 m.world;generalize stepG p (i == 0) (m.gs.swapAt! i { (default:Goroutine) with status:= .finished }).1 m.world b=s at h ⊢;cases s
 all_goals simp only []
 all_goals try exact h
 all_goals try trivial
 ·exact sD.trans h (zT ..)
 ·exact Py trivial h
 ·split
  ·rename_i e;exact bI h (vi (Af e).symm)
  ·split
   ·rename_i e;cases e;exact h
   ·trivial
  ·trivial
  ·trivial
 ·split
  ·exact h
  ·split
   ·rename_i e;cases e;exact h
   ·trivial
  ·trivial
 ·exact sD.trans h (JP ..)
def Nb (n:Nat):Move→Prop
 | .goroutine m _=>n≤m.world.drawn
 | .machine s _=>sD n s
theorem Nb.trans {n k:Nat} {s:Move} (h:n≤k) (g:Nb k s):Nb n s:=by
 cases s with
 | goroutine m i=>exact bI h g
 | machine s o=>exact sD.trans h g
theorem AK (p:Program) (m:Machine):Nb m.world.drawn (askOn p m):=by
 have pick : ∀ (m:Machine) (rs:List Nat),Nb m.world.drawn (match (choose (.sched rs.length)).run p m.world with
   | .halt _ w => .machine (.ended (.stuck "sched" "") w)
   | .ok k world=>
    if rs.length≤1 then .goroutine { m with world } (rs.getD k 0) else
    match (choose (.extern "sched.slice" 65536)).run p world with
    | .halt _ w => .machine (.ended (.stuck "sched.slice" "") w)
    | .ok n world=> .goroutine { m with world,rest:= { m.rest with slice:=if n=0 then none else some (rs.getD k 0,n) } } (rs.getD k 0)):=by
  intro m rs;split
  ·trivial
  ·rename_i w1 e;have h:m.world.drawn≤w1.drawn:=cC e;split
   ·exact h
   ·split
    ·trivial
    ·rename_i e;exact bI h (cC e)
 unfold askOn;simp only [];split
 ·trivial
 ·rename_i k w1 e;have h:m.world.drawn≤w1.drawn:=cC e;clear e;split
  ·exact sD.trans h (OK p { m with world:=w1 } _)
  ·split
   ·split
    ·exact h
    ·split
     ·exact h
     ·split <;> trivial
   ·split
    ·exact Nb.trans h (pick { m with world:=w1 } _)
    ·split
     ·trivial
     ·rename_i w2 e;exact Nb.trans (bI h (cC e)) (pick { m with world:=w2 } _)
     ·rename_i e;exact bI h (cC e)
     ·rename_i k2 w2 e;exact Nb.trans (bI h (cC e)) (pick (Machine.advanceTo { m with world:=w2 } _) _)
theorem KR (p:Program) (m:Machine):Nb m.world.drawn (ask p m):=by
 unfold ask;split
 ·split
  ·trivial
  ·rename_i w1 e;have h:m.world.drawn≤w1.drawn:=cC e;have h2:=JP p m.gs m.rest w1;split
   ·rename_i e2;rw [e2] at h2;exact Nb.trans (bI h h2) (AK ..)
   ·exact sD.trans h h2
  ·rename_i w1 _ e;have h:m.world.drawn≤w1.drawn:=cC e;exact Nb.trans h (AK p { m with world:=w1 })
 grind [AK]
theorem Sd (p:Program) (m:Machine):Nb m.world.drawn (move p m):=by
 unfold move;split
 ·split
  ·exact af _
  ·trivial
 ·split
  ·split
   ·exact af _
   ·exact KR p { m with rest:= { m.rest with slice:=none } }
  grind [KR]
theorem RD (p:Program) (m:Machine):sD m.world.drawn (step p m):=by
 unfold step stepT;have h:=Sd p m;split
 ·rename_i e;rw [e] at h;exact sD.trans h (RO ..)
 ·rename_i e;rw [e] at h;exact h
theorem Jf (p:Program) : ∀ (n:Nat) (m m':Machine),runN p n m = .next m'→m.world.drawn≤m'.world.drawn
 | 0,m,m',h=>by cases h;omega
 | n+1,m,m',h=>by
  rw [runN] at h;have h1:=RD p m;split at h
  ·rename_i e;rw [e] at h1;exact bI h1 (Jf p n _ _ h)
  simp_all
theorem N3 {p:Program} {m m':Machine} (h:Steps p m m'):m.world.drawn≤m'.world.drawn:=by
 obtain ⟨n,h⟩:=h;exact Jf p n m m' h
theorem GM {p:Program} {f:FuncId} {args:Array Value} {w:World} {R:Ending→World→Prop} (h:Calls p f args w R):Calls p f args w fun e w'=>R e w'∧((∃ v,e = .returned v)→w.drawn≤w'.drawn):=by
 intro cs;obtain ⟨e,w',fr,h1,h2,h3,h4⟩:=h cs;refine ⟨e,w',fr,⟨h1,?_⟩,h2,h3,h4⟩
 rintro ⟨v,rfl⟩
 exact N3 (m:=lone _ cs w) (m':=lone fr cs w') h2
end Go.Ev
namespace Go.Ev
open Go Go.RowKit
section
variable {P : Program} {G : ei} {pl : Pl} {M : di} {h : AHeap} {w w' : World} {f : FuncId} {args : List AV} {v : AV}
theorem cD.below (hr:cD pl M h w) (hb:Below w.heap.size w w'):cD pl M h w':=
 ⟨hr.dom,fun id p o h1 h2=>by rw [hb.block _ (hr.blk id p h1)];exact hr.obj id p o h1 h2,fun id p h1=>Ek (hr.blk id p h1) hb.size,hr.inj,
  fun b c h1=>by rw [hb.block _ (hr.memLt h1)];exact hr.imm b c h1,hr.sep⟩
theorem cT.below (hb:Below w.heap.size w w') (hd:w.drawn≤w'.drawn):cT h pl M w h pl M w':=⟨m7.refl _,fun _ _ h=>h,fun _ _ h=>h,hb.size,fun b h1 _=>hb.block b h1,fun id p h=> .inl ⟨p,h,rfl⟩,fun _ _ _ h=>h,fun _ _ h _=>h,fun _ _ h=> .inl h,hb.os,hb.tape,hb.output,hd⟩
theorem aN.below (hE : ∀ vs w,(callFunc f vs).run P w = .ok (.enter f vs) w)
  (hC : ∀ (pl:Pl) (M:di) (w:World) (vs:Array Value) (h:AHeap),pU G pl M→cD pl M h w→VRels pl M args vs→∃ cv,VRel pl M v cv∧Calls P f vs w fun e w'=>e = .returned cv∧Below w.heap.size w w'):aN P G f args v:=by
 intro h pl M w vs hG hr hv;obtain ⟨cv,h1,h2⟩:=hC pl M w vs h hG hr hv;refine .inl ⟨hE _ _,Calls.mono (GM h2) fun e w' ⟨⟨he,hb⟩,hd⟩=>?_⟩;exact ⟨cv,v,h,he,⟨rfl,rfl⟩,pl,M,h1,hr.below hb,cT.below hb (hd ⟨_,he⟩),af _⟩
theorem aN.calls (hGT:iF G) (hE : ∀ vs w,(callFunc f vs).run P w = .ok (.enter f vs) w) (hp:aN P G f args v) (hG:pU G pl M) (hr:cD pl M h w) {vs:Array Value} (hv:VRels (fun _=>none) M args vs) :
  Calls P f vs w fun e w'=>(∃ cv pl' M',e = .returned cv∧VRel pl' M' v cv)∧Below w.heap.size w w'∧w.drawn≤w'.drawn:=by
 have r0:cD (fun _=>none) M AHeap.none w:=⟨fun _ _ h=>(by grind),fun _ _ _ h _=>(by grind),fun _ _ h=>(by grind),fun _ _ _ _ h _ _=>(by grind),hr.imm,fun _ _ h=>(by grind)⟩
 rcases hp AHeap.none (fun _=>none) M w vs (hG.none hGT) r0 hv with ⟨_,h2⟩ | ⟨cv,w1,v1,h1,e1,_,_⟩
 ·refine Calls.mono h2 fun e w' ⟨cv,v1,h1,he,⟨e1,e2⟩,pl',M',g1,g2,g3,_⟩=>?_
  subst e1;exact ⟨⟨cv,pl',M',he,g1⟩,⟨g3.os,g3.tape,g3.out,g3.size,fun b hb=>g3.kept b hb fun id p h=>(by grind)⟩,g3.drawn⟩
 ·grind
end
end Go.Ev
namespace Go.Ev
open Go
def Pn (lo hi:Int) (c:UInt8):Bool:=ax (ar (.ofNat c.toNat) lo || ar hi (.ofNat c.toNat))
abbrev kJ:UInt8→Bool:=Pn 48 57
abbrev Wq:UInt8→Bool:=Pn 65 90
def eY (p:UInt8→Bool) (s:aO):Nat:=(s.takeWhile p).length
section
variable {p : UInt8 → Bool} {s : aO}
theorem Jg:eY p s≤s.length:=(List.takeWhile_prefix p).length_le
theorem Jh : ∀ {s:aO} {i:Nat},i<eY p s→p (gD s i)=true
 | [],i,h=>by simp_all [eY]
 | c::r,i,h=>by
  cases hc:p c with
  | false=>simp_all [eY]
  | true=>
   cases i with
   | zero=>exact hc
   | succ i=>exact Jh (s:=r) (by simp_all [eY])
theorem E0 : ∀ {s:aO},eY p s<s.length→p (gD s (eY p s))=false
 | [],h=>by simp_all
 | c::r,h=>by
  cases hc:p c with
  | false=>simp [eY,hc,gD]
  | true=>
   have h2:eY p r<r.length:=by simp_all [eY]
   have:=E0 (s:=r) h2;simp_all [eY,gD]
theorem uD : ∀ {s:aO},eY p s=s.length↔s.all p=true
 | []=>by simp [eY]
 | c::r=>by
  have ih:eY p r=r.length↔r.all p=true:=uD;cases hc:p c with
  | false=>simp [eY,hc]
  | true=>simp_all [eY]
end
theorem Vn {lo hi:Int} {c:UInt8} (h1:ar hi (.ofNat c.toNat)=true):Pn lo hi c=false:=by grind [Pn]
def j7 (s:aO):Bool:=ax (ar (.ofNat (s.take (eY kJ s)).length) 1) && (ax (ar 4 (.ofNat (s.take (eY kJ s)).length)) && (ax (ab (.ofNat (gD (s.take (eY kJ s)) 0).toNat) 48) && (ax (ar 3 (.ofNat (s.drop (eY kJ s)).length)) && (s.drop (eY kJ s)).all Wq)))
def rv (s:aO):Bool:=ax (ar (.ofNat s.length) 1) && (ax (ar 24 (.ofNat s.length)) && s.all (Pn 33 126))
def qQ (l:List aO):Bool:=ax (ar 256 (.ofNat l.length)) && l.all rv
theorem DY:({ data:=#[] } : ByteArray).data.toList=([]:List UInt8):=rfl
theorem Qw (s:aO):ar (.ofNat s.length) 1=dR s []:=by cases s <;> rfl
def cS {α:Type} (p:α→Bool):List α→Nat→Int
 | [],_=> -1
 | x::r,i=>bif p x then Int.ofNat i else cS p r (i+1)
theorem jj {α:Type} (p:α→Bool) : ∀ (l:List α) (i:Nat),ar (cS p l i) 0=ax (l.any p)
 | [],_=>rfl
 | x::r,i=>by
  unfold cS;rw [List.any_cons];cases h:p x with
  | true=>rfl
  | false=>simp_all [jj]
section
variable {α : Type} {p : α → Bool} {l x r : List α} {w : α} {j : Nat}
theorem oV (h1:l.drop j=x) (h2:x=w::r):l.length - (w::r).length=j∧l.length - r.length=j+1:=by grind
theorem j9 (h1:l.drop j=x) (h2:x=w::r) (h3:cS p l 0=cS p (w::r) (l.length - (w::r).length)) (h4:p w=true):cS p l 0=Int.ofNat j:=by rw [h3,(oV h1 h2).1,cS,h4];rfl
theorem ig (h1:l.drop j=x) (h2:x=w::r) (h3:cS p l 0=cS p (w::r) (l.length - (w::r).length)) (h4:p w=false):cS p l 0=cS p r (l.length - r.length):=by rw [h3,(oV h1 h2).1,(oV h1 h2).2,cS,h4];rfl
theorem B7:cS p l 0=cS p l (l.length - l.length):=by simp_all
end
def m0 (s:PStep):Bool:=ab s.kind 0 && dR s.label []
def sI (s:PStep):Bool:=ar 0 s.kind && (ax (ar 7 s.kind) && j7 s.label)
def NV:List PStep→Bool
 | []=>true
 | s::r=>(m0 s || sI s) && r.all sI
def kf (p:List PStep):Bool:=NV p && ax (ar 9 (.ofNat p.length))
def G6 (p r:List PStep):Bool:=bif Nat.beq r.length p.length then NV r else r.all sI
theorem NK {p:List PStep} : NV p=G6 p p:=by simp_all [G6]
theorem T7 {p:List PStep} : G6 p []=true:=by unfold G6;cases Nat.beq ([]:List PStep).length p.length <;> rfl
theorem DR {p x r:List PStep} {w:PStep} {j:Nat} (h1:p.drop j=x) (h2:x=w::r) (h3:NV p=G6 p (w::r)):NV p=((bif ab (Int.ofNat j) 0 then (m0 w || sI w) else sI w) && G6 p r):=by
 obtain ⟨e1,e2⟩:=oV h1 h2;have e3:=congrArg List.length (h1.trans h2);simp only [xD,cN] at e1 e2 e3;have f1:Nat.beq r.length p.length=false:=by cases h:Nat.beq r.length p.length with | false=>rfl | true=>grind [Nat.eq_of_beq_eq_true]
 rw [h3];unfold G6;rw [f1];cases j with
 | zero=>
  have f2:Nat.beq (w::r).length p.length=true:=by simp_all
  rw [f2];rfl
 | succ j=>
  have f2:Nat.beq (w::r).length p.length=false:=by cases h:Nat.beq (w::r).length p.length with | false=>rfl | true=>simp_all
  rw [f2];rfl
def c8:Int→aO
 | 0=> [98,111,111,107]
 | 1=> [112,97,114,116]
 | 2=> [115,101,99,116,105,111,110]
 | 3=> [112,97,114,97,103,114,97,112,104]
 | 4=> [116,97,98,108,101]
 | 5=> [114,111,119]
 | 6=> [99,101,108,108]
 | 7=> [110,111,116,101]
 | _=> []
def Hc:Int→List Int
 | 0=> [1,2]
 | 1=> [2]
 | 2=> [3,4,7]
 | 3=> [3,4,7]
 | 4=> [5]
 | 5=> [6]
 | _=> []
def jW (p k:Int):Bool:=(Hc p).any (ab k)
theorem H8 {k:Int} (h:k<0∨7<k):c8 k = []:=by
 unfold c8;grind
theorem Hb {k:Int} (h:k<0∨7<k):Hc k = []:=by
 unfold Hc;grind
end Go.Ev
namespace Go.Ev
open Go Go.RowKit Go.Proofs
structure ClassOf (p:UInt8→Bool) (q:Nat→Bool):Prop where
 low : ∀ c:UInt8,c.toNat<128→q c.toNat=ax (p c)
 high : ∀ n,128≤n→q n=true
 none : ∀ c:UInt8,128≤c.toNat→p c=false
theorem Tz {s:aO} {i:Nat} (h:i<s.length) (h2:i<ByteArray.size ⟨⟨s⟩⟩):(ByteArray.mk ⟨s⟩)[i]'h2=gD s i:=by
 simp [gD,List.getD,kR h];rfl
theorem tg {p:UInt8→Bool} {q:Nat→Bool} (hc:ClassOf p q) (s:aO) : ∀ (f pos:Nat),pos≤eY p s→s.length≤pos+f→Lib.idxFuncFrom q true ⟨⟨s⟩⟩ f pos=(bif Nat.beq (eY p s) s.length then -1 else Int.ofNat (eY p s))
 | f,pos,h1,h2=>by
  have hl:=Jg (p:=p) (s:=s);have hsz:ByteArray.size ⟨⟨s⟩⟩=s.length:=rfl;by_cases he:pos<s.length
  ·cases f with
   | zero=>omega
   | succ f=>
    unfold Lib.idxFuncFrom;rw [hsz,if_pos he];have hb:=Tz he (by rw [hsz];exact he);by_cases hr:pos<eY p s
    ·have hp:=Jh hr;have ha:(gD s pos).toNat<128:=by
      rcases fV (gD s pos).toNat 128 with h | h
      ·exact h
      ·rw [hc.none _ h] at hp;cases hp
     rw [decode_ascii _ pos (by rw [hsz];exact he) (by rw [hb];exact ha),hb];rw [if_neg (by rw [hc.low _ ha,hp];decide)];exact tg hc s f (pos+1) hr (by omega)
    ·have e:eY p s=pos:=by omega
     have hp:=E0 (p:=p) (s:=s) (by omega);rw [e] at hp;have hq:q (Utf8.decode ⟨⟨s⟩⟩ pos).1=true:=by
      rcases fV (gD s pos).toNat 128 with h | h
      ·rw [decode_ascii _ pos (by rw [hsz];exact he) (by rw [hb];exact h),hb,hc.low _ h,hp];rfl
      ·exact hc.high _ (decode_high _ pos (by rw [hsz];exact he) (by rw [hb];exact h)).1
     rw [if_pos hq,e];have f1:Nat.beq pos s.length=false:=by cases h:Nat.beq pos s.length with | false=>rfl | true=>have:=pz h;omega
     rw [f1];rfl
  ·have e:eY p s=s.length:=by omega
   rw [Lib.idxFuncFrom_end _ _ _ _ _ (by rw [hsz];exact he),e,pA];rfl
theorem wY {p:UInt8→Bool} {q:Nat→Bool} (hc:ClassOf p q) (s:aO):Lib.idxFunc q true ⟨⟨s⟩⟩=(bif Nat.beq (eY p s) s.length then -1 else Int.ofNat (eY p s)):=tg hc s _ 0 (bE _) (by show s.length≤0+s.length;omega)
section
variable {P : Program} {G : ei} {f g : FuncId}
theorem Bl {pl:Pl} {M:di} {w:World} {h:AHeap} (hGT:iF G) (hg2 : ∀ args w,(callFunc g args).run P w = .ok (.enter g args) w) {q:Nat→Bool} {qI:Int→Bool} (hp : ∀ r:Int,aN P G g [.int .i32 r] (.bool (qI r))) (hq : ∀ n:Nat,qI (.ofNat n)=q n)
  (hG:pU G pl M) (hr:cD pl M h w):PredGrows P g #[] q w:=by
 intro W x _ hb;refine Calls.mono (aN.calls hGT hg2 (hp (.ofNat x)) hG (hr.below hb) (vs:=#[.int .i32 (.ofNat x)]) ⟨rfl,fun j y hj=>?_⟩) fun e w' ⟨⟨cv,pl',M',he,hv⟩,hb',_⟩=>?_
 ·cases j with
  | zero=>simp at hj;subst hj;exact .int _ _
  | succ j=>simp_all
 grind [cases VRel]
theorem zz (hGT:iF G) (hE : ∀ vs w,(callFunc f vs).run P w = .ok (.enter f vs) w) (hg2 : ∀ args w,(callFunc g args).run P w = .ok (.enter g args) w) {q:Nat→Bool} {qI:Int→Bool}
  (hC : ∀ (s:ByteArray) (w:World),PredGrows P g #[] q w→Calls P f #[.string s, .func (.func g) #[] #[]] w fun e w'=>e = .returned (.int .i64 (Lib.idxFunc q true s))∧Below w.heap.size w w')
  (hp : ∀ r:Int,aN P G g [.int .i32 r] (.bool (qI r))) (hq : ∀ n:Nat,qI (.ofNat n)=q n) {p:UInt8→Bool} (hc:ClassOf p q) (s:aO) :
  aN P G f [.str s, .func (.func g) [] []] (.int .i64 (bif Nat.beq (eY p s) s.length then -1 else Int.ofNat (eY p s))):=by
 refine aN.below hE fun pl M w vs h hG hr hv=>?_
 obtain ⟨a,b,rfl,hv1,hv2⟩:=Aq hv;have e2:=yf hv2;subst e2;cases hv1
 rw [← wY hc s];exact ⟨_, .int _ _,hC ⟨⟨s⟩⟩ w (Bl hGT hg2 hp hq hG hr)⟩
theorem uX (hGT:iF G) (hE : ∀ vs w,(callFunc f vs).run P w = .ok (.enter f vs) w) (hg2 : ∀ args w,(callFunc g args).run P w = .ok (.enter g args) w) {q:Nat→Bool} {qI:Int→Bool}
  (hC : ∀ (s:ByteArray) (w:World),PredGrows P g #[] q w→Calls P f #[.string s, .func (.func g) #[] #[]] w fun e w'=>e = .returned (.bool (decide (0≤Lib.idxFunc q true s)))∧Below w.heap.size w w')
  (hp : ∀ r:Int,aN P G g [.int .i32 r] (.bool (qI r))) (hq : ∀ n:Nat,qI (.ofNat n)=q n) {p:UInt8→Bool} (hc:ClassOf p q) (s:aO) :
  aN P G f [.str s, .func (.func g) [] []] (.bool (ax (s.all p))):=by
 refine aN.below hE fun pl M w vs h hG hr hv=>?_
 obtain ⟨a,b,rfl,hv1,hv2⟩:=Aq hv;have e2:=yf hv2;subst e2;cases hv1
 have e:ax (s.all p)=decide (0≤Lib.idxFunc q true ⟨⟨s⟩⟩):=by
  rw [wY hc s];cases ha:s.all p with
  | true=>rw [(uD (p:=p)).2 ha,pA];rfl
  | false=>
   have:Nat.beq (eY p s) s.length=false:=by
    cases hb:Nat.beq (eY p s) s.length with
    | false=>rfl
    | true=>grind [uD,Nat.eq_of_beq_eq_true]
   simp_all
 rw [e];exact ⟨_, .bool _,hC ⟨⟨s⟩⟩ w (Bl hGT hg2 hp hq hG hr)⟩
end
theorem GF {lo hi:Nat} (h:hi<128):ClassOf (Pn (Int.ofNat lo) (Int.ofNat hi)) fun n=>ar (Int.ofNat n) (Int.ofNat lo) || ar (Int.ofNat hi) (Int.ofNat n) where
 low c _:=by unfold Pn;simp_all
 high n hn:=by rw [show ar (Int.ofNat hi) (Int.ofNat n)=true from nJ (by grind)];simp_all
 none c hn:=Vn (nJ (by grind))
end Go.Ev
namespace Go.Ev
open Go Go.RowKit
section
variable {P : Program} {G : ei} {f : FuncId}
theorem Hf {pl:Pl} {M:di} {w:World} {h:AHeap} (hr:cD pl M h w) {l:List aO} {a:Addr} {n cap:Nat} (hv:VRel pl M (.ps (l.map mM) false) (.slice (some a) n cap)) (hne:l≠ []) :
  n=l.length∧n≤cap∧a=⟨a.block,a.off,none⟩∧a.block<w.heap.size∧∀ (j:Nat) (x:ByteArray),(l.map fun s=>(⟨⟨s⟩⟩:ByteArray))[j]? = some x→w.cell? ⟨a.block,a.off+j,none⟩=some (.string x):=by
 cases hv with
 | ps hl ht hm hs hc=>
  rename_i sz c;have hne':l.map mM≠ []:=by simp_all
  obtain ⟨m1,m2,m3,m4⟩:=hm hne';obtain ⟨t,fr,hb⟩:=hr.imm _ _ m2;have hsz:sz=1:=by
   cases l with
   | nil=>simp_all
   | cons s r=>exact ((hs (mM s) (by simp)).1).symm
  subst hsz;refine ⟨by simp,hl,by rw [← m1],hr.memLt m2,fun j x hj=>?_⟩;rw [pD] at hj;obtain ⟨s,e1,rfl⟩:=Ex.1 hj;have hlt:j<l.length:=(gU.1 e1).1;have q:=hc j (mM s) 0 (.str s) (by simp_all) rfl;rw [Nat.mul_one,pj] at q;have hin:a.off+j<c.size:=by grind
  have e2:c[a.off+j]? = some (c.getD (a.off+j) undef):=by simp_all
  simp only [World.cell?,hb];simp only [Option.isSome_none,gK,if_false];rw [e2];cases hq:c.getD (a.off+j) undef <;> rw [hq] at q <;> cases q
  rfl
theorem L1 (hE : ∀ vs w,(callFunc f vs).run P w = .ok (.enter f vs) w)
  (hC : ∀ (bk o c:Nat) (xs:List ByteArray) (sep:ByteArray) (w:World),(∀ (j:Nat) x,xs[j]? = some x→w.cell? ⟨bk,o+j,none⟩=some (.string x))→bk<w.heap.size→xs.length≤140737488355328→xs.length≤c→
   (Lib.join (xs.map (·.data.toList)) sep.data.toList).length≤140737488355328→
   Calls P f #[.slice (some ⟨bk,o,none⟩) xs.length c, .string sep] w fun e w'=>e = .returned (.string ⟨(Lib.join (xs.map (·.data.toList)) sep.data.toList).toArray⟩)∧Below w.heap.size w w')
  (hN : ∀ (a:Option Addr) (c:Nat) (sep:ByteArray) (w:World),Calls P f #[.slice a 0 c, .string sep] w fun e w'=>e = .returned (.string ⟨#[]⟩)∧w'=w)
  (l:List aO) (sep:aO) (h1:l.length≤140737488355328) (h2:(Lib.join l sep).length≤140737488355328):aN P G f [.ls (l.map mM), .str sep] (.str (Lib.join l sep)):=by
 refine aN.below hE fun pl M w vs h hG hr hv=>?_
 obtain ⟨a,b,rfl,hv1,hv2⟩:=Aq hv;cases hv2
 have nil (p:Option Addr) (cap:Nat) (hl:l = []) : ∃ cv,VRel pl M (.str (Lib.join l sep)) cv∧Calls P f #[.slice p 0 cap, .string ⟨⟨sep⟩⟩] w fun e w'=>e = .returned cv∧Below w.heap.size w w':=by
  subst hl;exact ⟨.string ⟨⟨[]⟩⟩, .str _,Calls.mono (hN p cap ⟨⟨sep⟩⟩ w) fun e w' ⟨he,hw⟩=>⟨he,hw ▸ Below.refl _ _⟩⟩
 generalize hx:l.map mM=xs at hv1;cases hv1 with
 | lsn=>simp_all
 | lsp hp ht=>
  subst hx;by_cases hl:l = []
  ·subst hl;cases hp with
   | ps=>simp_all
  ·have hp':=hp;cases hp with
   | ps=>
    rename_i a cap sz c _ _ _ _ _;obtain ⟨e1,e2,e3,e4,e5⟩:=Hf hr hp' hl;have e6:(l.map fun s=>(⟨⟨s⟩⟩:ByteArray)).map (·.data.toList)=l:=by rw [List.map_map];exact List.map_id l
    have:=hC a.block a.off cap (l.map fun s=>⟨⟨s⟩⟩) ⟨⟨sep⟩⟩ w e5 e4 (by grind) (by grind) (by grind);rw [e6,← e3,b8,← e1] at this;exact ⟨.string ⟨⟨Lib.join l sep⟩⟩, .str _,this⟩
theorem E2 (hE : ∀ vs w,(callFunc f vs).run P w = .ok (.enter f vs) w)
  (hC : ∀ (s:ByteArray) (c:Nat) (w:World),c≤9223372036854775807→s.size * c≤140737488355328→Calls P f #[.string s, .int .i64 c] w fun e w'=>e = .returned (.string ⟨(Lib.repeatL s.data.toList c).toArray⟩)∧Below w.heap.size w w')
  (s:aO) (c:Nat) (h1:c≤9223372036854775807) (h2:s.length * c≤140737488355328):aN P G f [.str s, .int .i64 (.ofNat c)] (.str (Lib.repeatL s c)):=by
 refine aN.below hE fun pl M w vs h hG hr hv=>?_
 obtain ⟨a,b,rfl,hv1,hv2⟩:=Aq hv;cases hv1;cases hv2
 exact ⟨.string ⟨⟨Lib.repeatL s c⟩⟩, .str _,hC ⟨⟨s⟩⟩ c w h1 h2⟩
theorem LW (hE : ∀ vs w,(callFunc f vs).run P w = .ok (.enter f vs) w)
  (hC : ∀ (s cs:ByteArray) (w:World),s.size≤9223372036854775807→cs.size<4294967281→(∀ (j:Nat) b,cs.data.toList[j]? = some b→b.toNat<128)→
   Calls P f #[.string s, .string cs] w fun e w'=>e = .returned (.string ⟨(Lib.trimS s.data.toList cs.data.toList).toArray⟩)∧Below w.heap.size w w')
  (s cs:aO) (h1:s.length≤9223372036854775807) (h2:cs.length<4294967281) (h3 : ∀ b,b∈cs→b.toNat<128):aN P G f [.str s, .str cs] (.str (Lib.trimS s cs)):=by
 refine aN.below hE fun pl M w vs h hG hr hv=>?_
 obtain ⟨a,b,rfl,hv1,hv2⟩:=Aq hv;cases hv1;cases hv2
 exact ⟨.string ⟨⟨Lib.trimS s cs⟩⟩, .str _,hC ⟨⟨s⟩⟩ ⟨⟨cs⟩⟩ w h1 h2 fun j b hj=>h3 b (bi hj)⟩
end
end Go.Ev
namespace Go.Ev
open Go
structure PId where
 a:Int
 i:Int
 n:Int
 deriving Inhabited,DecidableEq
noncomputable def aY (p:PId):AV:= .agg [.int .i64 p.a, .int .i64 p.i, .int .i64 p.n]
theorem Ip (p:PId):(aY p).top=0:=rfl
def bY (u:TUnit):PId:=⟨u.act,u.item,u.n⟩
def bv (p q:PId):Bool:=ab p.a q.a && (ab p.i q.i && ab p.n q.n)
theorem tE {p q:PId} (h:bv p q=true):p=q:=by
 unfold bv at h;rw [bK,bK] at h;obtain ⟨a,b,c⟩:=p;obtain ⟨d,e,g⟩:=q;grind [iq]
theorem kB (p:PId):bv p p=true:=by simp [bv,aP]
abbrev fT (p:PId) (u:TUnit):Bool:=bv (bY u) p
theorem IX:KeyOf PId true 3 [(0,1),(1,1),(2,1)] aY bv where
 eq a b:=by
  show wP [.int .i64 a.a, .int .i64 a.i, .int .i64 a.n] [.int .i64 b.a, .int .i64 b.i, .int .i64 b.n] [(0,1),(1,1),(2,1)]=_
  simp only [wP,jy,Rf,Ih,ka,bv];cases h1:ab a.a b.a <;> cases h2:ab a.i b.i <;> cases h3:ab a.n b.n <;> rfl
 t a b h:=tE h
 refl a:=kB a
 same a:=by simp [aY,mZ,jf,jD,ka,aP]
 top a:=rfl
mutual
def nU:TUnit→Nat
 | ⟨_,_,_,_,_,_,_,ks⟩=>1+eQ ks
def eQ:List TUnit→Nat
 | []=>0
 | k::r=>nU k+eQ r
end
mutual
def mN:TUnit→Nat
 | ⟨_,_,_,_,_,_,_,ks⟩=>kc ks
def kc:List TUnit→Nat
 | []=>0
 | k::r=>Nat.max (1+mN k) (kc r)
end
mutual
def bc:TUnit→List TUnit
 | ⟨x1,x2,x3,x4,x5,x6,x7,ks⟩=>⟨x1,x2,x3,x4,x5,x6,x7,ks⟩::dh ks
def dh:List TUnit→List TUnit
 | []=> []
 | k::r=>bc k++dh r
end
mutual
def au (p:PId):TUnit→List TUnit
 | ⟨x1,x2,x3,x4,x5,x6,x7,ks⟩=>bif fT p ⟨x1,x2,x3,x4,x5,x6,x7,ks⟩ then [⟨x1,x2,x3,x4,x5,x6,x7,ks⟩] else match cY p ks with
  | []=> []
  | y::t=>⟨x1,x2,x3,x4,x5,x6,x7,ks⟩::y::t
def cY (p:PId):List TUnit→List TUnit
 | []=> []
 | k::r=>match au p k with
  | []=>cY p r
  | y::t=>y::t
end
theorem i9 (u:TUnit):nU u=1+eQ u.kids:=by cases u;rw [nU];rfl
theorem l8:eQ []=0:=by rw [eQ]
theorem ba (k:TUnit) (r:List TUnit):eQ (k::r)=nU k+eQ r:=by rw [eQ]
theorem KA (u:TUnit):mN u=kc u.kids:=by cases u;rw [mN];rfl
theorem Ck:kc []=0:=by rw [kc]
theorem It (k:TUnit) (r:List TUnit):kc (k::r)=Nat.max (1+mN k) (kc r):=by rw [kc]
theorem dz (u:TUnit):bc u=u::dh u.kids:=by cases u;rw [bc];rfl
theorem fD:dh [] = []:=by rw [dh]
theorem bB (k:TUnit) (r:List TUnit):dh (k::r)=bc k++dh r:=by rw [dh]
def dY (u:TUnit):List PId:=(bc u).map bY
def iU (l:List TUnit):List PId:=(dh l).map bY
theorem nK (u:TUnit):dY u=bY u::iU u.kids:=by unfold dY iU;rw [dz];rfl
theorem qO:iU [] = []:=by unfold iU;rw [fD];rfl
theorem f9 (k:TUnit) (r:List TUnit):iU (k::r)=dY k++iU r:=by grind [dY,iU,bB]
theorem DX : ∀ {l:List TUnit} {k:TUnit},k∈l→nU k≤eQ l
 | x::r,k,h=>by
  rw [ba];rcases fz.1 h with rfl | h
  ·omega
  ·have:=DX h;omega
theorem hJ {u k:TUnit} (h:k∈u.kids):nU k<nU u:=by rw [i9 u];have:=DX h;omega
theorem H0 (u:TUnit):0<nU u:=by grind [i9]
theorem xd : ∀ (l:List TUnit),l.length≤eQ l
 | []=>by simp_all
 | k::r=>by
  rw [ba,cN];have:=xd r;grind [H0]
theorem bw (u:TUnit):u.kids.length<nU u:=by grind [i9,xd]
theorem Lm {l:List TUnit} (h : ∀ k,k∈l→(bc k).length=nU k):(dh l).length=eQ l:=by
 induction l with
 | nil=>rw [fD,l8];rfl
 | cons k r ih=>grind [bB,ba]
theorem E8 : ∀ (u:TUnit),(bc u).length=nU u:=TUnit.ind fun u ih=>by grind [dz,i9,Lm]
theorem th (u:TUnit):(dY u).length=nU u:=by grind [dY,E8]
theorem Qg {l:List TUnit} {n:Nat} (h : ∀ k,k∈l→1+mN k≤n):kc l≤n:=by
 induction l with
 | nil=>grind [Ck]
 | cons k r ih=>grind [It]
theorem Dn : ∀ (u:TUnit),mN u<nU u:=TUnit.ind fun u ih=>by
 have:kc u.kids≤eQ u.kids:=Qg fun k hk=>by have:=ih k hk;have:=DX hk;omega
 grind [KA,i9]
section
variable {p : PId} {u w : TUnit} {r : List TUnit}
theorem gV (u:TUnit):au p u=bif fT p u then [u] else match cY p u.kids with | []=> [] | y::t=>u::y::t:=by cases u;rw [au];rfl
theorem kh:cY p [] = []:=by rw [cY]
theorem oe (k:TUnit) (r:List TUnit):cY p (k::r)=match au p k with | []=>cY p r | y::t=>y::t:=by rw [cY]
def cX (p:PId) (u:TUnit):Bool:=ax (au p u).isEmpty
theorem zw (h:cX p u=false):au p u = []:=by grind [cX]
theorem vW (h:cX p u=true) : ∃ y t,au p u=y::t:=by
 unfold cX at h;cases e:au p u with
 | nil=>grind
 | cons x r=>simp_all
theorem kN (h:cX p u=true):au p u≠ []:=by grind [vW]
theorem sC (h:fT p u=true):au p u = [u]:=by rw [gV,h];rfl
theorem Dy (h:fT p u=true):cX p u=true:=by unfold cX;rw [sC h];rfl
theorem iG (h:cX p w=false):cY p (w::r)=cY p r:=by rw [oe,zw h]
theorem nN (h:cX p w=true):cY p (w::r)=au p w:=by grind [vW,oe]
theorem NF (h:fT p u=false) (h2:cY p u.kids=cY p []):au p u = []:=by rw [gV,h,h2,kh];rfl
theorem FN (h:fT p u=false) (h2:cY p u.kids=cY p []):cX p u=false:=by unfold cX;rw [NF h h2];rfl
theorem I9 (h:fT p u=false) (h2:cY p u.kids=cY p (w::r)) (h3:cX p w=true):au p u=u::au p w:=by grind [gV,nN,vW]
theorem TZ (h:fT p u=false) (h2:cY p u.kids=cY p (w::r)) (h3:cX p w=true):cX p u=true:=by unfold cX;rw [I9 h h2 h3];rfl
end
theorem lP {p:PId} : ∀ (u:TUnit),(au p u).length≤nU u:=TUnit.ind fun u ih=>by
 rw [gV];cases fT p u with
 | true=>exact H0 u
 | false=>
  have key : ∀ (r:List TUnit),(∀ k,k∈r→k∈u.kids)→(cY p r).length≤eQ r:=by
   intro r;induction r with
   | nil=>grind [kh]
   | cons k r ihr=>grind [oe,ba]
  grind [i9]
def bj:TUnit:=⟨0,0,0,0, [], [], [], []⟩
noncomputable def eH (p:PId) (u:TUnit):TUnit:=bif cX p u then gD (au p u) ((au p u).length - 1) else bj
theorem JZ {p:PId} : ∀ (u:TUnit) (x:TUnit),x∈au p u→x∈bc u:=TUnit.ind fun u ih=>by
 intro x hx;rw [gV] at hx;rw [dz];cases h:fT p u with
 | true=>simp_all
 | false=>
  rw [h] at hx;simp only [cond_false] at hx;have key : ∀ (r:List TUnit),(∀ k,k∈r→k∈u.kids)→∀ x,x∈cY p r→x∈dh r:=by
   intro r;induction r with
   | nil=>grind [kh]
   | cons k r ihr=>grind [oe,bB]
  grind
noncomputable def pb (p:Int × aO):AV:= .agg [.int .i64 p.1, .str p.2]
def mH (a b:Int × aO):Bool:=ab a.1 b.1 && dR a.2 b.2
theorem qe : ∀ (s:aO),dR s s=true
 | []=>rfl
 | c::r=>by simp only [dR,qe r,Bool.and_true];simp_all
theorem Gv : ∀ {a b:aO},dR a b=true→a=b
 | [], [],_=>rfl
 | c::r,d::q,h=>by
  simp only [dR,bK] at h;rw [Gv h.2,UInt8.toNat_inj.1 (pz h.1)]
theorem J6:KeyOf (Int × aO) true 2 [(0,1),(1,2)] pb mH where
 eq a b:=by
  show wP [.int .i64 a.1, .str a.2] [.int .i64 b.1, .str b.2] [(0,1),(1,2)]=_
  simp only [wP,jy,Rf,Ih,ka,mH];cases h1:ab a.1 b.1 <;> cases h2:dR a.2 b.2 <;> rfl
 t a b h:=by
  simp only [mH,bK] at h;grind [iq,Gv]
 refl a:=by simp [mH,aP,qe]
 same a:=by simp [pb,mZ,jf,jD,ka,aP,qe]
 top a:=rfl
noncomputable def dU (b:Bool):AV:= .bool b
theorem zE (b:Bool):(dU b).top=0:=rfl
def Nc {K:Type} (keq:K→K→Bool) (k:K) (l:List (K × Bool)):Bool:=(nC keq k l).getD false
section
variable {K : Type} {ag : Bool} {sz : Nat} {lv : List (Nat × Nat)} {kenc : K → AV} {keq : K → K → Bool}
theorem Fb (hk:KeyOf K ag sz lv kenc keq) (m:List (K × Bool)) (k:K):eF (some (.bool false)) false (bx ag sz lv (kenc k) (b0 kenc dU m 0) 0)=some (.bool (Nc keq k m)):=by
 rw [y9 hk];unfold Nc;cases nC keq k m with
 | none=>rfl
 | some v=>rfl
theorem JX (hk:KeyOf K ag sz lv kenc keq) (m:List (K × Bool)) (k:K):rz (b0 kenc dU m 0) m.length (kenc k) (.bool true) (bx ag sz lv (kenc k) (b0 kenc dU m 0) 0)=some (b0 kenc dU (fw keq k true m) 0,(fw keq k true m).length):=Bz (f:=dU) hk k true m
end
def oa (l:List PWord):Bool:=ax (ar 256 (.ofNat l.length)) && qQ (l.map fun w=>w.text)
def mB (pk:Int):List TUnit→List ((Int × aO) × Bool)→Bool
 | [],_=>true
 | k::r,m=>jW pk k.kind && (ax (Nc mH (k.kind,k.label) m) && mB pk r (fw mH (k.kind,k.label) true m))
def lG (u:TUnit):Bool:=(bif ab u.kind 0 then dR u.label [] && ax (ar 0 (.ofNat (u.head.length+u.words.length))) else ax (dR (c8 u.kind) []) && (j7 u.label && (oa u.head && oa u.words))) && (mB u.kind u.kids [] && ax (ar 64 (.ofNat u.kids.length)))
def vd (q:TUnit→Bool) (u:TUnit):Bool:=(bc u).all q
theorem xt (q:TUnit→Bool) (u:TUnit):vd q u=(q u && (dh u.kids).all q):=by grind [vd,dz]
theorem NJ (q:TUnit→Bool):(dh []).all q=true:=by rw [fD];rfl
theorem Ak (q:TUnit→Bool) (k:TUnit) (r:List TUnit):(dh (k::r)).all q=(vd q k && (dh r).all q):=by rw [bB,List.all_append];rfl
def Bd (l:List PId) (m:List (PId × Bool)):List (PId × Bool):=l.foldl (fun m p=>fw bv p true m) m
def bF:PId:=⟨0,0,0⟩
def PA (u:TUnit):Bool:=(Nc bv bF (Bd (dY u) []) && ab (.ofNat (Bd (dY u) []).length) 1) || (ab (.ofNat (Bd (dY u) []).length) (.ofNat (dY u).length) && (ab u.kind 0 == fT bF u))
def ki (u:TUnit):Bool:=vd lG u && (ax (ar 8 (.ofNat (mN u))) && (ax (ar 1024 (.ofNat (nU u))) && PA u))
theorem bf {u k:TUnit} (h:k∈u.kids) {x:TUnit} (hx:x∈bc k):x∈bc u:=by
 rw [dz];refine fy _ ?_;generalize u.kids=l at h;induction l with
 | nil=>grind
 | cons y r ih=>grind [bB]
theorem dK (u:TUnit):u∈bc u:=by grind [dz]
theorem J5 {u k:TUnit} (h:k∈u.kids):k∈bc u:=bf h (dK k)
end Go.Ev
namespace Go.Ev
open Go
def b7 {α:Type} (q:α→α→Bool):List α→List α→Bool
 | [], []=>true
 | x::l,y::m=>q x y && b7 q l m
 | _,_=>false
theorem lU {α:Type} {q:α→α→Bool} : ∀ {l m:List α},l.length≠m.length→b7 q l m=false
 | [], [],h=>absurd rfl h
 | [],y::m,_=>rfl
 | x::l, [],_=>rfl
 | x::l,y::m,h=>by
  unfold b7;rw [lU (l:=l) (m:=m) (fun e=>h (by simp [e]))];exact xH _
theorem Gw {α:Type} {q:α→α→Bool} (hq : ∀ a b,q a b=true↔a=b) : ∀ {l m:List α},b7 q l m=true↔l=m
 | [], []=>by simp [b7]
 | [],y::m=>by simp [b7]
 | x::l, []=>by simp [b7]
 | x::l,y::m=>by simp [b7,hq,Gw hq (l:=l) (m:=m)]
section
variable {α : Type} [Inhabited α] {q : α → α → Bool} {l m x r : List α} {w : α} {j : Nat}
omit [Inhabited α] in
theorem zt:b7 q l m=b7 q l (m.drop (l.length - l.length)):=by simp_all
theorem xo {m:List α} {j:Nat} (h:j<m.length):m.drop j=gD m j::m.drop (j+1):=by grind [List.drop_eq_getElem_cons,gD]
theorem iz (h1:l.drop j=x) (h2:x=w::r) (hl:l.length=m.length) (h3:b7 q l m=b7 q (w::r) (m.drop (l.length - (w::r).length))):b7 q l m=(q w (gD m j) && b7 q r (m.drop (l.length - r.length))):=by
 have e:=congrArg List.length (h1.trans h2);simp only [xD,cN] at e;rw [h3,(oV h1 h2).1,(oV h1 h2).2,xo (by omega),b7]
omit [Inhabited α] in
theorem mL (hl:l.length=m.length) (h3:b7 q l m=b7 q [] (m.drop (l.length - ([]:List α).length))):b7 q l m=true:=by rw [h3,gc,Nat.sub_zero,hl,List.drop_length];rfl
end
def Ad (a b:PWord):Bool:=dR a.text b.text && (ab a.act b.act && (ab a.item b.item && ab a.at_ b.at_))
theorem Te (a b:PWord):Ad a b=true↔a=b:=by
 obtain ⟨t,x,y,z⟩:=a;obtain ⟨t',x',y',z'⟩:=b;simp only [Ad,bK,PWord.mk.injEq];constructor
 ·grind [Gv,iq]
 ·grind [qe,aP]
mutual
def Ae:TUnit→TUnit→Bool
 | ⟨a,i,n,k,l,h,w,ks⟩,v=>bv ⟨a,i,n⟩ (bY v) && (ab k v.kind && (dR l v.label && (b7 Ad h v.head && (b7 Ad w v.words && MD ks v.kids))))
def MD:List TUnit→List TUnit→Bool
 | [], []=>true
 | k::r, []=>false
 | k::r,x::s=>Ae k x && MD r s
 | [],x::s=>false
end
theorem Ig (u v:TUnit):Ae u v=(bv (bY u) (bY v) && (ab u.kind v.kind && (dR u.label v.label && (b7 Ad u.head v.head && (b7 Ad u.words v.words && b7 Ae u.kids v.kids))))):=by
 have key : ∀ (l m:List TUnit),MD l m=b7 Ae l m:=by
  intro l;induction l with
  | nil=>intro m;cases m <;> (rw [MD];rfl)
  | cons x l ih=>intro m;cases m with | nil=>rw [MD];rfl | cons y m=>rw [MD,ih];rfl
 cases u
 rw [Ae,key];rfl
theorem Tf : ∀ (u v:TUnit),Ae u v=true↔u=v:=TUnit.ind fun u ih=>by
 have key : ∀ (l:List TUnit),(∀ k,k∈l→k∈u.kids)→∀ m,b7 Ae l m=true↔l=m:=by
  intro l;induction l with
  | nil=>grind [b7]
  | cons x l ihl=>
   intro hm m;cases m with
   | nil=>simp [b7]
   | cons y m=>grind [b7]
 intro v;rw [Ig];simp only [bK,key u.kids (fun _ h=>h),Gw Te];obtain ⟨a,i,n,k,l,h,w,ks⟩:=u;obtain ⟨a',i',n',k',l',h',w',ks'⟩:=v;simp only [TUnit.mk.injEq,bY,TUnit.act,TUnit.item,TUnit.n,TUnit.kind,TUnit.label,TUnit.head,TUnit.words,TUnit.kids];constructor
 ·grind [tE,iq,Gv]
 ·rintro ⟨rfl,rfl,rfl,rfl,rfl,rfl,rfl,rfl⟩
  exact ⟨kB _,aP _,qe _,rfl,rfl,rfl⟩
end Go.Ev
namespace Go.Ev
open Go
def HY (u v:AV):Prop:=(Sc v→Sc u)∧Les u.cells v.cells
theorem HY.refl (v:AV):HY v v:=⟨id,Les.refl _⟩
theorem HY.one {u v:AV} (hu:u.cells = [u]) (hv:v.cells = [v]) (hs:cF u=true) (h:Le u v):HY u v:=⟨fun _ y hy=>by simp_all,by rw [hu,hv];exact .cons h .nil⟩
inductive LesC:List AV→List AV→Prop
 | nil:LesC [] []
 | cons {u v:AV} {us vs:List AV} (h:HY u v) (k:LesC us vs):LesC (u::us) (v::vs)
theorem LesC.len {us vs:List AV} (h:LesC us vs):us.length=vs.length:=by
 induction h with
 | nil=>rfl
 | cons _ _ ih=>simp_all
theorem LesC.at_ {us vs:List AV} (h:LesC us vs) : ∀ (j:Nat) (u:AV),us[j]? = some u→∃ v,vs[j]? = some v∧HY u v:=by
 induction h with
 | nil=>simp_all
 | cons h k ih=>grind
theorem D9 {xs ys:List AV} {t:Bool} (h:LesC xs ys):Le (.ps xs false) (.ps ys t):=fun pl M v hv=>by
 cases hv with
 | @ps _ _ a cap sz c hl ht hm hs hc=>
  rw [← h.len];refine .ps (sz:=sz) (c:=c) (by rw [h.len];omega) (fun h=>by grind) (fun hx=>?_) (fun x hx=>?_) fun i x j y hx hy=>?_
  ·have:ys≠ []:=fun e=>hx (rk (by rw [h.len,e];rfl))
   rw [h.len];simp_all
  ·obtain ⟨i,hi⟩:=A9 hx;obtain ⟨y,h1,h2,h3⟩:=h.at_ i x hi;have:=hs y (bi h1);exact ⟨h3.len.trans this.1,h2 this.2⟩
  ·obtain ⟨z,h1,_,h3⟩:=h.at_ i x hx;obtain ⟨d,h4,h5⟩:=h3.at_ j y hy;exact h5 _ _ _ (hc i z j d h1 h4)
theorem Wf {xs ys:List AV} {t:Bool} (h:LesC xs ys) (h0:aq xs=0):Le (.ls xs) (.ps ys t):=fun pl M v hv=> .lsp (D9 h pl M v hv) h0
theorem Wg {xs ys:List AV} (h:LesC xs ys) (h0:aq xs=0):Le (.ls xs) (.ls ys):=fun pl M v hv=>by
 cases hv with
 | lsn=>cases h;exact .lsn
 | lsp hv _=>exact .lsp (D9 h pl M v hv) h0
theorem Le.pls {x:AV} {xs ys:List AV} (h:LesC (x::xs) ys):Le (.ps (x::xs) false) (.ls ys):=fun pl M v hv=>by
 cases hv with
 | lsn=>cases h
 | lsp hv _=>exact D9 h pl M v hv
mutual
def Ac:AV→AV→Bool
 | .ls xs, .nils=>xs.isEmpty
 | .ls xs, .ps ys _=>kU xs ys && Nat.beq (aq xs) 0
 | .ls xs, .ls ys=>kU xs ys && Nat.beq (aq xs) 0
 | .ps (x::xs) false, .ls ys=>kU (x::xs) ys
 | .ps xs false, .ps ys _=>kU xs ys
 | .agg us, .agg vs=>kU us vs && us.all cF
 | u,v=>AV.same u v
def kU:List AV→List AV→Bool
 | [], []=>true
 | a::us,b::vs=>Ac a b && kU us vs
 | _,_=>false
end
theorem HY.same {u v:AV} (h:AV.same u v=true):Le u v∧HY u v:=by grind [AV.same_eq,Le.refl,HY.refl]
mutual
theorem vf : ∀ (u v:AV),Ac u v=true→Le u v∧HY u v:=fun u v h=>by
 unfold Ac at h;split at h
 ·rename_i xs;have e:xs = []:=by simp_all
  subst e;exact ⟨Le.nils,HY.one rfl rfl rfl Le.nils⟩
 ·rename_i xs ys t;have h:=nF.1 h;have k:=Wf (t:=t) (jp xs ys h.1).2 (pz h.2);exact ⟨k,HY.one rfl rfl rfl k⟩
 ·rename_i xs ys;have h:=nF.1 h;have k:=Wg (jp xs ys h.1).2 (pz h.2);exact ⟨k,HY.one rfl rfl rfl k⟩
 ·rename_i x xs ys;have k:=Le.pls (jp (x::xs) ys h).2;exact ⟨k,HY.one rfl rfl rfl k⟩
 ·rename_i xs ys t;have k:=D9 (t:=t) (jp xs ys h).2;exact ⟨k,HY.one rfl rfl rfl k⟩
 ·rename_i us vs;have h:=nF.1 h;have k:=jp us vs h.1;exact ⟨aL k.1 h.2,fun _ y hy=>nH.1 h.2 y hy,k.1⟩
 ·exact HY.same h
theorem jp : ∀ (us vs:List AV),kU us vs=true→Les us vs∧LesC us vs:=fun us vs h=>by
 unfold kU at h;split at h
 ·exact ⟨.nil, .nil⟩
 ·rename_i a us b vs;have h:=nF.1 h;have h1:=vf a b h.1;have h2:=jp us vs h.2;exact ⟨.cons h1.1 h2.1, .cons h1.2 h2.2⟩
 ·grind
end
section
variable {P : Program} {G : ei} {f : FuncId} {a b : List AV} {u v : AV}
theorem aN.args (h:aN P G f a v) (hl:Les a b):aN P G f b v:=fun hp pl M w vs hg hr hv=>h hp pl M w vs hg hr (hv.le hl)
theorem aN.lessB (h:aN P G f a v) (hl:Ac u v=true):aN P G f a u:=h.less (vf _ _ hl).1
theorem VV (a b:Nat):BH (.ofNat a) (.ofNat b) = .ofNat (Nat.max a b):=by
 unfold BH;cases h:ar (.ofNat a) (.ofNat b) with
 | true=>
  have h:=ap h;grind
 | false=>
  have h:=aF h;simp_all
theorem mG {xs ys:List AV} {i t:Nat} {r:List (Nat × Nat)} {x y:AV} {e c:Bool} (hx:jy xs i=some x) (hy:jy ys i=some y) (h:Ih t x y=some e) (k:wP xs ys r=some c):wP xs ys ((i,t)::r)=some (e && c):=by
 simp only [wP,hx,hy,Rf,h];cases e with
 | true=>exact k
 | false=>rfl
theorem zp {xs ys:List AV} {i t:Nat} {r:List (Nat × Nat)} {x y:AV} {e:Bool} (hx:jy xs i=some x) (hy:jy ys i=some y) (h:Ih t x y=some e) (k:wP xs ys r=some true):wP xs ys ((i,t)::r)=some e:=by
 simp only [wP,hx,hy,Rf,h];cases e with
 | true=>exact k
 | false=>rfl
theorem DP {d:Option TypeDesc} {n:Nat} {l:List (Nat × Nat)} {xs ys:List AV} {c:Bool} {H:AHeap} (hn:(Nat.beq xs.length n && Nat.beq ys.length n)=true) (hl:wP xs ys l=some c) :
  bq H (Ro (pi .eql d (some true) (some n) (some l)) (some (.agg xs)) (some (.agg ys)))=some (.val (.bool c) H):=by
 grind [Ro,pi,V1,oG,bq]
theorem xu {d:Option TypeDesc} {n:Nat} {l:List (Nat × Nat)} {xs ys:List AV} {c:Bool} {H:AHeap} (hn:(Nat.beq xs.length n && Nat.beq ys.length n)=true) (hl:wP xs ys l=some c) :
  bq H (Ro (pi .neq d (some true) (some n) (some l)) (some (.agg xs)) (some (.agg ys)))=some (.val (.bool (!c)) H):=by
 grind [Ro,pi,V1,oG,bq]
def wU:List (FuncId × List AV × AV)→X6
 | [],_,_,_=>none
 | x::r,g,b,h=>match Nat.beq g x.1 with
  | true=>(match kU x.2.1 b with | true=>some (x.2.2,h) | false=>wU r g b h)
  | false=>wU r g b h
theorem zx : ∀ {L:List (FuncId × List AV × AV)} {g:FuncId} {h h1:AHeap} {v1:AV},wU L g b h=some (v1,h1)→∃ x,x∈L∧g=x.1∧kU x.2.1 b=true∧v1=x.2.2∧h1=h
 | [],_,_,_,_,e=>by grind [wU]
 | x::r,g,h,h1,v1,e=>by
  unfold wU at e;have next:wU r g b h=some (v1,h1)→∃ y,y∈x::r∧g=y.1∧kU y.2.1 b=true∧v1=y.2.2∧h1=h:=fun e=>
   let ⟨y,k,q⟩:=zx e
   ⟨y,fy _ k,q⟩
  grind [Nat.eq_of_beq_eq_true]
theorem PC {C:Cfg} {L:List (FuncId × List AV × AV)} (hC:C.hook=wU L) (hL : ∀ x,x∈L→aN C.P C.G x.1 x.2.1 x.2.2):IP C:=fun g b hp v1 h1 e pl M w vs hg hr hv=>by
 rw [hC] at e;obtain ⟨x,hx,rfl,hl,rfl,rfl⟩:=zx e;rcases hL x hx h1 pl M w vs hg hr (hv.le (jp _ _ hl).1) with ⟨k1,k2⟩ | ⟨cv,w',v2,h2,k1,⟨rfl,rfl⟩,k3⟩
 ·refine .inl ⟨k1,fun cs=>?_⟩;obtain ⟨en,w',fr,⟨cv,v2,h2,e1,⟨rfl,rfl⟩,k3⟩,r⟩:=k2 cs;grind
 ·exact .inr ⟨cv,w',k1,k3⟩
def W6 (v:AV):Option (AV × AHeap)→Bool
 | some (u,_)=>Ac v u && Nat.beq u.top 0
 | none=>false
theorem aN.closed {C:Cfg} {k:Nat} (hG:iF C.G) (ev:cV C.P C.G (ii C k)) (ht:aq a=0) (h:W6 v (ii C k f a AHeap.none)=true):aN C.P C.G f a v:=by
 cases hx:ii C k f a AHeap.none with
 | none=>rw [hx] at h;cases h
 | some r=>
  obtain ⟨u,h1⟩:=r;rw [hx] at h;have h:=nF.1 h;exact (ow hG ht (pz h.2) ((aC.of ev hx).mono fun v1 _ e=>e.1)).lessB h.1
end
end Go.Ev
namespace Go.Ev
open Go
theorem aN.ls0 {P:Program} {G:ei} {f:FuncId} {r:List AV} {v:AV} (h1:aN P G f (.nils::r) v) (h2:aN P G f (.ps [] false::r) v):aN P G f (.ls []::r) v:=fun h=>EX (fun _ _ _ hv=>VRels.first hv fun _ hv=>hv.ls0) (h1 h) (h2 h)
theorem QZ {p:PId} {u:TUnit} (h:cX p u=true):eH p u∈au p u:=by
 unfold eH;rw [h];have:=pC.2 (kN h);grind [iQ]
theorem RU : ∀ (u:TUnit),mT u=(bc u).flatMap m9:=by
 refine TUnit.ind fun u ih=>?_
 rw [K3,dz,EY];congr 1;have key : ∀ (l:List TUnit),(∀ k,k∈l→k∈u.kids)→ke l=(dh l).flatMap m9:=by
  intro l;induction l with
  | nil=>intro _;rw [Cp,fD];rfl
  | cons k r ihr=>grind [sg,bB]
 simp_all
theorem NG {p:PId} : ∀ (u:TUnit),cX p u=true→bY (eH p u)=p:=by
 refine TUnit.ind fun u ih h=>?_
 unfold eH;rw [h];simp only [cond_true];cases hh:fT p u with
 | true=>rw [sC hh];exact tE hh
 | false=>
  have key : ∀ (r:List TUnit),(∀ k,k∈r→k∈u.kids)→cY p r≠ []→bY (gD (cY p r) ((cY p r).length - 1))=p:=by
   intro r;induction r with
   | nil=>grind [kh]
   | cons k r ihr=>grind [nN,eH,iG]
  have k2:=key u.kids fun _ h=>h
  obtain ⟨y,t,e⟩:=vW h;rw [gV,hh] at e ⊢;grind [gD]
theorem KJ {p:PId} : ∀ (u:TUnit),(∃ x,x∈bc u∧bY x=p)→cX p u=true:=by
 refine TUnit.ind fun u ih ⟨x,hx,hp⟩=>?_
 cases hh:fT p u with
 | true=>grind [Dy]
 | false=>
  rw [dz] at hx;rcases fz.1 hx with rfl | hx
  ·simp_all [fT,kB]
  ·have key : ∀ (l:List TUnit),(∀ k,k∈l→k∈u.kids)→x∈dh l→cY p l≠ []:=by
    intro l;induction l with
    | nil=>grind [fD]
    | cons k r ihr=>grind [bB,cX,nN,iG]
   grind [cX,gV]
theorem BF {α β:Type} {f:α→β} : ∀ {l:List α},(l.map f).Nodup→∀ {x y:α},x∈l→y∈l→f x=f y→x=y
 | a::l,h,x,y,hx,hy,e=>by
  rw [ee,List.nodup_cons] at h;rcases fz.1 hx with h1 | h1
  ·grind
  ·rcases fz.1 hy with h2 | h2
   ·simp_all
   ·exact BF h.2 h1 h2 e
theorem Cz {K V:Type} {kenc:K→AV} {f:V→AV} : ∀ (l:List (K × V)) (i:Nat),(b0 kenc f l i).length=l.length
 | [],_=>rfl
 | (k,v)::r,i=>by rw [b0,cN,Cz r,cN]
theorem Lv (m:List (PId × Bool)):Bd [] m=m:=rfl
theorem Qj {n:Nat} (h:0<n):ab (Int.ofNat n) 0=false:=by grind [o8]
def CJ (p:PId):TUnit→Option TUnit:=fun u=>(bc u).find? (fT p)
theorem Rl {p:PId} : ∀ (u:TUnit),(cX p u=true→CJ p u=some (eH p u))∧(cX p u=false→CJ p u=none):=by
 refine TUnit.ind fun u ih=>?_
 unfold CJ;rw [dz];cases hh:fT p u with
 | true=>
  rw [List.find?_cons_of_pos (by omega)];refine ⟨fun h=>?_,fun h=>by grind [Dy]⟩;unfold eH;rw [h,sC hh];rfl
 | false=>
  rw [List.find?_cons_of_neg (by simp_all)];have key : ∀ (r:List TUnit),(∀ k,k∈r→k∈u.kids)→(cY p r≠ []→(dh r).find? (fT p)=some (gD (cY p r) ((cY p r).length - 1)))∧(cY p r = []→(dh r).find? (fT p)=none):=by
   intro r;induction r with
   | nil=>grind [kh,fD]
   | cons k r ihr=>
    intro hm;have ik:=ih k (hm k (fG ..));have ir:=ihr fun z hz=>hm z (fy _ hz)
    rw [bB,List.find?_append];cases hk:cX p k with
    | true=>grind [CJ,nN,kN,eH]
    | false=>grind [CJ,iG]
  have k2:=key u.kids fun _ h=>h
  refine ⟨fun h=>?_,fun h=>?_⟩
  ·obtain ⟨y,t,e⟩:=vW h;unfold eH;rw [h,gV,hh];rw [gV,hh] at e;grind [gD]
  ·have e:=zw h;grind [gV]
theorem gz (p:PId) (u:TUnit):fT p u=true↔bY u=p:=⟨tE,fun h=>by simp_all [fT,kB]⟩
theorem HH {y x:TUnit} : ∀ (u:TUnit),y∈bc u→x∈bc y→x∈bc u:=by
 refine TUnit.ind fun u ih h hx=>?_
 rw [dz] at h ⊢;rcases fz.1 h with rfl | h
 ·grind [dz]
 ·refine fy _ ?_;have key : ∀ (l:List TUnit),(∀ k,k∈l→k∈u.kids)→y∈dh l→x∈dh l:=by
   intro l;induction l with
   | nil=>grind [fD]
   | cons k r ihr=>grind [bB]
  simp_all
theorem iL {y x u:TUnit} (h:y∈bc u) (hx:x∈bc y):x∈bc u:=HH u h hx
theorem Of {x:TUnit} : ∀ (u:TUnit),x∈bc u→nU x≤nU u:=by
 refine TUnit.ind fun u ih h=>?_
 rw [dz] at h;rcases fz.1 h with rfl | h
 ·omega
 ·have key : ∀ (l:List TUnit),(∀ k,k∈l→k∈u.kids)→x∈dh l→nU x<nU u:=by
   intro l;induction l with
   | nil=>grind [fD]
   | cons k r ihr=>grind [bB,Nat.lt_of_le_of_lt,hJ]
  grind
theorem dG {x u:TUnit} (h:x∈bc u):nU x≤nU u:=Of u h
section
variable {p : PId} {u w : TUnit} {r : List TUnit}
end
end Go.Ev
namespace Go.Ev
open Go
def kZ (a b:PStep):Bool:=ab a.kind b.kind && dR a.label b.label
mutual
def Dg:PItem→PItem→Bool
 | ⟨k,a,t,w,n,u,o,ne,l,f,s,ac,im,d,e,bs⟩,v=>
  (ab k v.kind && (ab w v.where_ && (ab n v.nth_ && (ab ac v.act && (ab im v.item && ab d v.day)))))
  && ((dR l v.label && (dR f v.for_ && (dR e v.event && (ab s.kind v.start.kind && (ab s.day v.start.day && dR s.event v.start.event)))))
  && ((b7 kZ a v.at_ && (b7 kZ t v.to && (b7 dR o v.old && b7 dR ne v.new)))
  && (Ae u v.unit && CV bs v.by_)))
def CV:List PItem→List PItem→Bool
 | [], []=>true
 | k::r, []=>false
 | k::r,x::s=>Dg k x && CV r s
 | [],x::s=>false
end
theorem Qx : ∀ (l m:List PItem),CV l m=b7 Dg l m:=by
 intro l;induction l with
 | nil=>intro m;cases m <;> (rw [CV];rfl)
 | cons x l ih=>intro m;cases m with | nil=>rw [CV];rfl | cons y m=>rw [CV,ih];rfl
theorem Tg (u v:PItem):Dg u v=((ab u.kind v.kind && (ab u.where_ v.where_ && (ab u.nth_ v.nth_ && (ab u.act v.act && (ab u.item v.item && ab u.day v.day)))))
  && ((dR u.label v.label && (dR u.for_ v.for_ && (dR u.event v.event && (ab u.start.kind v.start.kind && (ab u.start.day v.start.day && dR u.start.event v.start.event)))))
  && ((b7 kZ u.at_ v.at_ && (b7 kZ u.to v.to && (b7 dR u.old v.old && b7 dR u.new v.new)))
  && (Ae u.unit v.unit && b7 Dg u.by_ v.by_)))):=by
 cases u
 rw [Dg,Qx];rfl
noncomputable def DQ (s:aO):Bool:=ax (ar (.ofNat s.length) 1) && (ax (ar 16 (.ofNat s.length)) && (ax (ar (.ofNat (gD s 0).toNat) 97) && (ax (ar 122 (.ofNat (gD s 0).toNat)) && dR (Lib.trimS s [97,98,99,100,101,102,103,104,105,106,107,108,109,110,111,112,113,114,115,116,117,118,119,120,121,122,48,49,50,51,52,53,54,55,56,57,45]) [])))
def rJ (n:Bool) (s:PStart):Bool:=bif ab s.kind 0 || ab s.kind 2 then ab s.day 0 && dR s.event [] else bif ab s.kind 1 then (ax (ar s.day 0) && ax (ar 1048576 s.day)) && dR s.event [] else bif ab s.kind 3 then ab s.day 0 && n else false
end Go.Ev
namespace Go.Ev
open Go
def bh (s:PStep) (u:TUnit):Bool:=ab u.kind s.kind && dR u.label s.label
def gq:List PStep→List TUnit→List TUnit
 | [],l=>l
 | s::r,l=>gq r (l.flatMap fun x=>x.kids.filter (bh s))
def dO (u:TUnit) (p:List PStep):List TUnit:=bif kf p then (match p with
 | []=> [u]
 | s::r=>gq r (bif m0 s then [u] else (bc u).filter (bh s))) else []
noncomputable def aA (u:TUnit) (p:List PStep):PId × Int:=match dO u p with
 | []=>(bF,7)
 | [x]=>(bY x,0)
 | _=>(bF,8)
def jk (p:PId) (u:TUnit):Bool:=ax (ar (.ofNat (au p u).length) 2)
noncomputable def Ha (p:PId) (u:TUnit):TUnit:=gD (au p u) ((au p u).length - 2)
noncomputable def tW (p:PId) (u:TUnit):PId:=bif jk p u then bY (Ha p u) else bF
noncomputable def qW (p:PId) (u:TUnit):Int:=bif jk p u then cS (cX p) (Ha p u).kids 0 else -1
def pm (p:PId) (u:TUnit):List PId:=(((au p u).take ((au p u).length - 1)).map bY).reverse
structure PSpot where
 id:PId
 at_:Int
 deriving Inhabited
noncomputable def fX (s:PSpot):AV:= .agg [.int .i64 s.id.a, .int .i64 s.id.i, .int .i64 s.id.n, .int .i64 s.at_]
def dA:PSpot:=⟨bF,0⟩
noncomputable def nw (u:TUnit) (p:PId) (n:Int):PSpot × Int:=bif jk p u then (⟨tW p u,qW p u+n⟩,0) else (dA,9)
noncomputable def dw (w:Int) (u:TUnit) (p:PId):PSpot × Int:=bif ab w 0 then (⟨p,0⟩,0) else bif ab w 1 then (⟨p, .ofNat (eH p u).kids.length⟩,0) else bif ab w 2 then nw u p 1 else nw u p 0
def iy (n:Int):Bool:=ax (ar n 0) && ax (ar 3 n)
def cp (act item:Int):List aO→Nat→List PWord
 | [],_=> []
 | s::r,n=>⟨s,act,item, .ofNat n⟩::cp act item r (n+1)
def bM (l:List PWord):List aO:=l.map fun w=>w.text
theorem fE (a i:Int) : ∀ (l:List aO) (n:Nat),(cp a i l n).length=l.length
 | [],_=>rfl
 | s::r,n=>by rw [cp,cN,fE a i r,cN]
mutual
def cO (a i:Int):TUnit→Nat→Nat→TUnit
 | ⟨_,_,_,k,l,h,ws,ks⟩,n,w=>⟨a,i, .ofNat (n+1),k,l,cp a i (bM h) w,cp a i (bM ws) (w+h.length),e9 a i ks (n+1) (w+h.length+ws.length)⟩
def e9 (a i:Int):List TUnit→Nat→Nat→List TUnit
 | [],_,_=> []
 | k::r,n,w=>cO a i k n w::e9 a i r (n+nU k) (w+(mT k).length)
end
theorem Bb (a i:Int) (u:TUnit) (n w:Nat):cO a i u n w=⟨a,i, .ofNat (n+1),u.kind,u.label,cp a i (bM u.head) w,cp a i (bM u.words) (w+u.head.length),e9 a i u.kids (n+1) (w+u.head.length+u.words.length)⟩:=by cases u;rw [cO];rfl
theorem Eu (a i:Int) (n w:Nat):e9 a i [] n w = []:=by rw [e9]
theorem CG (a i:Int) (k:TUnit) (r:List TUnit) (n w:Nat):e9 a i (k::r) n w=cO a i k n w::e9 a i r (n+nU k) (w+(mT k).length):=by rw [e9]
def uO (part:List aO):Nat→List aO→Nat→List Nat
 | 0,_,_=> []
 | f+1,l,i=>bif Nat.ble (i+part.length) l.length then (bif b7 dR ((l.drop i).take part.length) part then i::uO part f l (i+part.length) else uO part f l (i+1)) else []
def tY (l part:List aO):List Nat:=bif part.isEmpty then [] else uO part (l.length+1) l 0
end Go.Ev
namespace Go.Ev
open Go
def oO (w:PWord):Bool:=ax (ab w.act 0 && (ab w.item 0 && ab w.at_ 0))
def Cl (x:TUnit):Bool:=fT bF x && (ax (x.head.any oO) && ax (x.words.any oO))
def GS (u:TUnit):Bool:=ki u && vd Cl u
def gr (w:PWord):PWord:=⟨w.text,0,0,0⟩
mutual
def cE:TUnit→TUnit
 | ⟨_,_,_,k,l,h,w,ks⟩=>⟨0,0,0,k,l,h.map gr,w.map gr,sH ks⟩
def sH:List TUnit→List TUnit
 | []=> []
 | k::r=>cE k::sH r
end
theorem yX : ∀ (l:List TUnit),sH l=l.map cE
 | []=>by rw [sH];rfl
 | k::r=>by rw [sH,yX r];rfl
theorem mW (u:TUnit):cE u=⟨0,0,0,u.kind,u.label,u.head.map gr,u.words.map gr,u.kids.map cE⟩:=by cases u;rw [cE,yX];rfl
theorem PD {p:PId} {u:TUnit} (h:cX p u=false):jk p u=false:=by unfold jk;rw [zw h];rfl
theorem U5 {p:PId} {u:TUnit} (h:jk p u=false):tW p u=bF:=by unfold tW;simp_all
theorem Ot {p:PId} {u:TUnit} (h:jk p u=false):qW p u = -1:=by unfold qW;simp_all
theorem HI {p:PId} {u:TUnit} (h:jk p u=true):tW p u=bY (Ha p u):=by unfold tW;simp_all
theorem HL {p:PId} {u:TUnit} (h:jk p u=true):qW p u=cS (cX p) (Ha p u).kids 0:=by unfold qW;simp_all
def oU (p:PId) (u:TUnit) (k:Nat):List PId:=((((au p u).take ((au p u).length - 1)).drop k).map bY).reverse
theorem DN (p:PId) (u:TUnit):oU p u 0=pm p u:=rfl
theorem Co (p:PId) (u:TUnit):oU p u ((au p u).length - 1) = []:=by
 unfold oU;simp_all
theorem Aj (p:PId) (u:TUnit) {k:Nat} (h:k+1<(au p u).length):oU p u k=oU p u (k+1)++ [bY (gD (au p u) k)]:=by
 unfold oU;have h1:k<((au p u).take ((au p u).length - 1)).length:=by grind
 rw [Nl h1,ee,List.reverse_cons];grind [gD]
theorem Cn (p:PId) (u:TUnit) (k:Nat):(oU p u k).length≤(au p u).length:=by grind [oU]
def lQ (s:PStep) (u:TUnit):List TUnit:=(bc u).filter (bh s)
def dV (s:PStep) (l:List TUnit):List TUnit:=(dh l).filter (bh s)
theorem ym (s:PStep) (u:TUnit):lQ s u=(bif bh s u then [u] else [])++dV s u.kids:=by
 unfold lQ dV;rw [dz,List.filter_cons];grind
theorem mo (s:PStep):dV s [] = []:=by unfold dV;rw [fD];rfl
theorem ge (s:PStep) (k:TUnit) (r:List TUnit):dV s (k::r)=lQ s k++dV s r:=by grind [lQ,dV,bB]
theorem mY (s:PStep) (u:TUnit):(lQ s u).length≤nU u:=by grind [lQ,E8]
theorem sX : ∀ (l m:List TUnit),eQ (l++m)=eQ l+eQ m
 | [],m=>by rw [l8,xF,gJ]
 | x::r,m=>by rw [xL,ba,ba,sX r m,Nat.add_assoc]
theorem yI (q:TUnit→Bool) : ∀ (l:List TUnit),eQ (l.filter q)≤eQ l
 | []=>by simp_all
 | x::r=>by
  rw [List.filter_cons,ba];have:=yI q r;cases q x with
  | true=>rw [if_pos rfl,ba];omega
  | false=>grind
theorem yH (q:TUnit→Bool) : ∀ (l:List TUnit),eQ (l.flatMap fun x=>x.kids.filter q)≤eQ l
 | []=>by simp_all
 | x::r=>by
  rw [EY,sX,ba];have:=yH q r;grind [yI,i9]
theorem JH {n:Nat} : ∀ (l:List TUnit),(∀ x,x∈l→nU x≤n)→eQ l≤n * l.length
 | [],_=>by simp_all [l8]
 | x::r,h=>by
  rw [ba,cN,Nat.mul_add,Nat.mul_one];have:=h x (fG ..);have:=JH r fun y hy=>h y (fy _ hy)
  omega
theorem Fx (s:PStep) (u:TUnit) (hp : ∀ x,x∈bc u→nU x≤nU u):eQ (lQ s u)≤nU u * nU u:=by
 have h1:=JH (n:=nU u) (lQ s u) fun x hx=>hp x (xC.1 hx).1
 exact bI h1 (Nat.mul_le_mul_left _ (mY s u))
theorem Hi (l:List TUnit):gq [] l=l:=rfl
theorem Ix {u:TUnit} {p:List PStep} (h:kf p=false):dO u p = []:=by unfold dO;simp_all
theorem F4 {u:TUnit} (h:kf []=true):dO u [] = [u]:=by unfold dO;simp_all
theorem F5 {u:TUnit} {s:PStep} {r:List PStep} (h:kf (s::r)=true) (hb:m0 s=true):dO u (s::r)=gq r [u]:=by
 unfold dO;simp_all
theorem wz {u:TUnit} {s:PStep} {r:List PStep} (h:kf (s::r)=true) (hb:m0 s=false):dO u (s::r)=gq r (lQ s u):=by
 unfold dO;rw [h];show gq r (bif m0 s then [u] else (bc u).filter (bh s))=_
 rw [hb];rfl
def cq (s:PStep) (l:List TUnit):List TUnit:=l.flatMap fun x=>x.kids.filter (bh s)
section
variable {s : PStep} {l m r r1 X : List TUnit} {w w1 : TUnit} {n N : Nat} {rs0 : List PStep} {R at0 : List TUnit}
theorem H9:cq s [] = []:=rfl
theorem wJ:cq s (w::r)=w.kids.filter (bh s)++cq s r:=by grind [cq]
theorem Hl (rs:List PStep):gq (s::rs) l=gq rs (cq s l):=rfl
theorem Fj:eQ (cq s l)≤eQ l:=yH _ l
theorem fA (h:R=gq (s::rs0) l∧eQ l≤N) (e:cq s []=cq s l):R=gq rs0 []∧eQ []≤N:=⟨by rw [h.1,Hl,← e];rfl,by simp_all [l8]⟩
theorem fB (h:R=gq (s::rs0) l∧eQ l≤N) (e:m++cq s []=cq s l):R=gq rs0 m∧eQ m≤N:=by grind [H9,Hl,Fj]
theorem gA (h:cq s (w1::r1)=X):w1.kids.filter (bh s)++cq s r1=X:=wJ.symm.trans h
theorem gB (h:n=m.length∧m++cq s (w1::r1)=X∧m.length+eQ (w1::r1)<N):n=m.length∧m++(w1.kids.filter (bh s)++cq s r1)=X∧m.length+(eQ w1.kids+eQ r1)<N:=⟨h.1,wJ (s:=s) ▸ h.2.1,by grind [ba,i9]⟩
theorem YD (h:(w::r).filter (bh s)++cq s r1=X) (q:bh s w=false):r.filter (bh s)++cq s r1=X:=by simp_all
theorem YC (h:n=m.length∧m++((w::r).filter (bh s)++cq s r1)=X∧m.length+(eQ (w::r)+eQ r1)<N) (q:bh s w=false):n=m.length∧m++(r.filter (bh s)++cq s r1)=X∧m.length+(eQ r+eQ r1)<N:=⟨h.1,by simp_all,by grind [ba]⟩
theorem YB (h:n=m.length∧m++((w::r).filter (bh s)++cq s r1)=X∧m.length+(eQ (w::r)+eQ r1)<N) (q:bh s w=true):n+1=(m++ [w]).length∧(m++ [w])++(r.filter (bh s)++cq s r1)=X∧(m++ [w]).length+(eQ r+eQ r1)<N:=⟨by simp_all,by simp_all,by grind [H0,ba]⟩
end
section
variable {p : PId} {u : TUnit} {i : Int} {l : List PId}
theorem NX (hn:i=Int.ofNat (au p u).length - 2) (h0:ar i 0=false) : [bY (gD (au p u) i.toNat)]=oU p u (i - 1+1).toNat:=by
 have h0:=aF h0;simp only [aI] at hn;have e:(i - 1+1).toNat=i.toNat:=by omega
 rw [e,Aj p u (k:=i.toNat) (by omega),show i.toNat+1=(au p u).length - 1 by omega,Co,xF]
theorem G5 (h:l=oU p u (i+1).toNat) (hi:i+2≤(au p u).length) (h0:ar i 0=false):l++ [bY (gD (au p u) i.toNat)]=oU p u (i - 1+1).toNat:=by
 have h0:=aF h0;grind [Aj]
theorem RJ (h:l=oU p u (i+1).toNat) (hi : -1≤i) (h0:ar i 0=true):l=pm p u:=by
 have h0:=ap h0;rw [h,show (i+1).toNat=0 by omega,DN]
theorem RW (hn:i=Int.ofNat (au p u).length - 2) (h0:ar i 0=true):pm p u = []:=by
 have h0:=ap h0;simp only [aI] at hn;rw [← DN];have:(au p u).length - 1=0:=by omega
 grind [Co]
end
theorem Js {s:PStep} {l m:List TUnit} (h:dV s l=m) (hm:m≠ []):l≠ []:=by grind [mo]
theorem UD (l:List TUnit) {z:AV} (hz:z.top=0):aq (l.map aV++ [z])=0:=jM.2 fun x hx=>by grind [gM]
theorem oB {l x r:List TUnit} {w:TUnit} {j:Nat} (h1:l.drop j=x) (h2:x=w::r):nU w+eQ r≤eQ l:=by
 have e:l=l.take j++(w::r):=by grind [List.take_append_drop]
 grind [sX,ba]
end Go.Ev
namespace Go.Ev
open Go
def pT (l:List aO) (n:Int):Bool:=qQ l && ax (ar (.ofNat l.length) n)
def AD (n:Int):Bool:=ax (ar n 0) && ax (ar 256 n)
theorem Iz {u:TUnit} (p:List PStep) (h:nU u≤2 ^ 11):(dO u p).length≤2 ^ 22:=by
 have key : ∀ (rs:List PStep) (l:List TUnit),eQ (gq rs l)≤eQ l:=by
  intro rs;induction rs with
  | nil=>intro l;exact af _
  | cons s r ih=>grind [Hl,Fj]
 unfold dO;cases kf p with
 | false=>simp_all
 | true=>
  simp only [cond_true];cases p with
  | nil=>simp_all
  | cons s r=>
   simp only [];refine bI (xd _) (bI (key r _) ?_);cases m0 s with
   | true=>grind [ba,l8]
   | false=>
    simp only [cond_false];have h1:=Fx s u fun x hx=>dG hx
    have h2:nU u * nU u≤2 ^ 11 * 2 ^ 11:=Nat.mul_le_mul h h;exact bI h1 h2
theorem GW {u:TUnit} {p:List PStep} (h:dO u p = []):aA u p=(bF,7):=by grind [aA]
theorem GX {u x:TUnit} {p:List PStep} (h:dO u p = [x]):aA u p=(bY x,0):=by grind [aA]
theorem GZ {u x y:TUnit} {r:List TUnit} {p:List PStep} (h:dO u p=x::y::r):aA u p=(bF,8):=by grind [aA]
def wm (own:PId) (i:Int) (ok:Bool) (n:Int):PSpot × Int:=bif ok then (⟨own,i+n⟩,0) else (dA,9)
def Bi (e:Int) (sp:PSpot) (e2:Int):PSpot × Int:=bif ab e 0 then (bif ab e2 0 then (sp,0) else (dA,e2)) else (dA,e)
def nr (p q own:PId) (at_:Int) (ok c bs:Bool) (sp:PSpot) (e:Int):PSpot × Int:=
 bif ax ok || ((ax (bv q p) && c) || (bv q p && ax bs)) then (dA,9)
 else bif bv q p then (⟨own,at_⟩,0)
 else bif ab e 0 && (bv sp.id own && ar at_ sp.at_) then (⟨sp.id,sp.at_ - 1⟩,e) else (sp,e)
end Go.Ev
