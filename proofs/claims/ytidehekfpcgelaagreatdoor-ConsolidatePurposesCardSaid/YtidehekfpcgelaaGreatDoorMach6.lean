/- An abstract machine for runs of the program, proved sound against the model: part 6. No conditions. -/
import Derived.Test.YtidehekfpcgelaaGreatDoorMach5
import Derived.Shelf.SortM.Plain
import Derived.Shelf.SortM.SortNone
import Derived.Shelf.SlSortCmp.NoneTotal
import Derived.Shelf.SlicesG.CompactI
import Derived.Lib.QuietBelow
import GoSem.ClaimJoined
import Derived.Calls
import Derived.RunT
import Derived.Below
import Derived.Shelf.Strings.FuncGrows
import Derived.Laws.RangeAny
import Derived.Lib.Join
import Derived.Lib.Repeat
import Derived.Lib.SlTrimSet
namespace Go.Ev
open Go Go.Sort Go.Proofs
section
variable {P : Program} {G : eh} {pl : Pl} {M : dl} {h : AHeap} {w w' : World}
theorem sC (hr:cE pl M h w) {id:Nat} {p:Place} {sz:Nat} {op:Bool} {ep:Nat} {xs xs':List AV} {c c':Array Value} {t:TypeId} (hp:pl id=some p) (hg:h.get id=some (.row sz op ep xs))
  (hb:w.heap[p.blk]? = some (.cells c t (0,0))) (hw:w'.heap[p.blk]? = some (.cells c' t (0,0))) (hcs:c'.size=c.size) (hlen:xs'.length=xs.length) (hel : ∀ x,x∈xs'→x.cells.length=sz∧Sc x)
  (hcell : ∀ i x j y,xs'[i]? = some x→x.cells[j]? = some y→VRel pl M y (c'.getD (i * sz+j) undef)) (hs:WSame w w') (hsz:w.heap.size≤w'.heap.size) (hk : ∀ b,b<w.heap.size→b≠p.blk→w'.heap[b]? = w.heap[b]?) :
  cE pl M (h.put id (.row sz op ep xs')) w'∧cP h pl M w (h.put id (.row sz op ep xs')) pl M w':=by
 have ho:=hr.obj id p _ hp hg;rw [hb] at ho;simp only [bf] at ho;obtain ⟨h1,h2,h3,h4,h5,h6,h7,h8⟩:=ho;have e:=xT (pl:=pl) hp;have:=cE.change (p':=p) (o':= .row sz op ep xs') hr hp hg (.inl rfl) hs hsz hk (.inl rfl) (vp.1 hw).1 (by
  rw [e,hw];simp only [bf];refine ⟨h1,h2,by omega,by omega,trivial,h6,fun e=>by simp_all,⟨?_,hel,fun i x j y q1 q2=>?_⟩⟩
  ·grind [cases InMem]
  simp_all)
 simp_all
variable {β : Type} [Inhabited β]
theorem qc {enc:β→Value} {blk off n:Nat} {d:Array β} {os:Array Obj} {c:Array Value} {t:TypeId} {fr:Nat × Nat} (hb:w.heap[blk]? = some (.cells c t fr)) :
  (grow (putRow enc (Sort.ahead w n) blk off d) os).heap[blk]? = some (.cells (putCells enc off d c) t fr):=by
 grind [grow,putRow,mapBlock,Sort.ahead,onCells]
theorem kZ {enc:β→Value} {blk off n:Nat} {d:Array β} {os:Array Obj} {b:Nat} (hb:b<w.heap.size) (hne:b≠blk) :
  (grow (putRow enc (Sort.ahead w n) blk off d) os).heap[b]? = w.heap[b]?:=by
 simp only [grow,putRow,mapBlock,Sort.ahead];grind
theorem nE {enc:β→Value} {blk off n:Nat} {d:Array β} {os:Array Obj} : WSame w (grow (putRow enc (Sort.ahead w n) blk off d) os):=⟨rfl,rfl,rfl,Nat.le_add_right _ _⟩
theorem AO {enc:β→Value} {blk off n:Nat} {d:Array β} {os:Array Obj} : w.heap.size≤(grow (putRow enc (Sort.ahead w n) blk off d) os).heap.size:=by simp_all
theorem nC {enc:β→Value} {d:Array β} {c:Array Value} {k:Nat} (hk:k<d.size) (hc:k<c.size):(putCells enc 0 d c).getD k undef=enc d[k]!:=by simp_all [putCells]
theorem pR (hr:cE pl M h w) {id ep len sz:Nat} {op:Bool} {cap:Option Nat} {xs:List AV} {x:Value} (hv:VRel pl M (.slice id ep 0 len cap) x) (hg:h.get id=some (.row sz op ep xs)) (hl:0<len) :
  ∃ p c t cap',pl id=some p∧w.heap[p.blk]? = some (.cells c t (0,0))∧x = .slice (some ⟨p.blk,0,none⟩) len cap'∧InMem pl M c 0 sz xs∧0<sz∧p.blk<w.heap.size:=by
 cases hv with
 | slice hp he hle hk ha=>
  rename_i cap' a p;have ho:=hr.obj id p _ hp hg;cases hb:w.heap[p.blk]? with
  | none=>grind [bf]
  | some ob=>
   rw [hb] at ho;cases ob <;> simp only [bf] at ho
   rename_i c t fr;obtain ⟨h1,h2,h3,h4,h5,h6,h7,h8⟩:=ho;subst h5;obtain ⟨k1,_⟩:=ha (by omega);have k2:a=⟨p.blk,0,none⟩:=by grind
   exact ⟨p,c,t,_,hp,hb,by rw [k2],h8,h6,(vp.1 hb).1⟩
def dD (zs:List Int):List Int:=zs.mergeSort fun x y=>decide (x≤y)
theorem kn (zs:List Int):(dD zs).Perm zs:=List.mergeSort_perm ..
theorem CM (zs:List Int):(dD zs).Pairwise (fun a b=>a≤b):=by
 have:=List.pairwise_mergeSort (le:=fun x y:Int=>decide (x≤y)) (by grind) (by grind) zs;exact this.imp (by simp)
theorem CX {c:Array Value} {sz:Nat} {xs:List AV} (hm:InMem pl M c 0 sz xs) {i:Nat} {x:AV} (hx:xs[i]? = some x) {j:Nat} (hj:j<sz):i * sz+j<c.size∧∃ y,x.cells[j]? = some y∧VRel pl M y (c.getD (i * sz+j) undef):=by
 have h1:=hm.fit;have hi:=(gj.1 hx).1;have h2:=(hm.elem x (bm hx)).1;have h3:(i+1) * sz≤xs.length * sz:=ef _ hi;rw [jo] at h3;refine ⟨by omega,x.cells[j],by simp_all,?_⟩;have:=hm.cell i x j _ hx (lm (by omega:j<x.cells.length));simp_all
theorem AC {f:FuncId} (hE : ∀ vs w,(callFunc f vs).run P w = .ok (.enter f vs) w)
  (hC : ∀ (blk off cap:Nat) (zs:List Int) (w:World),Holds (Value.int .i64) w blk off zs.toArray→blk<w.heap.size→zs.length<4611686018427387904→
   Calls P f #[.slice (some ⟨blk,off,none⟩) zs.length cap] w fun e w'=>e = .returned (.tuple #[])∧∃ n os,w'=grow (putRow (Value.int .i64) (Sort.ahead w n) blk off (zs.mergeSort fun x y=>decide (x≤y)).toArray) os)
  {id ep:Nat} {op:Bool} {cap:Option Nat} (zs:List Int) (hg:h.get id=some (.row 1 op ep (zs.map be))) (hz:0<zs.length) (hb:zs.length<4611686018427387904) :
  aF P G f [.slice id ep 0 zs.length cap] h (fun v h'=>v = .tuple []∧h'=h.put id (.row 1 op ep ((dD zs).map be))):=by
 intro pl M w vs hG hr hv;obtain ⟨a,rfl,hv1⟩:=Q4 hv;obtain ⟨p,c,t,cap',hp,hbl,rfl,hm,_,hlt⟩:=pR hr hv1 hg hz;have hcell : ∀ j z,zs[j]? = some z→j<c.size∧c.getD j undef = .int .i64 z:=by
  intro j z hj;have hx:(zs.map be)[j]? = some (be z):=by simp_all
  obtain ⟨q1,y,q2,q3⟩:=CX hm hx (j:=0) (by omega);rw [Nat.mul_one,pj] at q1 q3;simp [be,AV.cells] at q2;subst q2;refine ⟨q1,?_⟩;cases hq:c.getD j undef <;> rw [hq] at q3 <;> cases q3
  rfl
 refine .inl ⟨hE _ _,Calls.mono (hC p.blk 0 cap' zs w (fun j hj=>?_) hlt hb) fun e w' ⟨he,n,os,hw⟩=>?_⟩
 ·have hj':j<zs.length:=by omega
  obtain ⟨q1,q2⟩:=hcell j zs[j] (lm hj');rw [gY];refine ⟨?_,?_⟩
  ·simp only [World.cell?,hbl];simp only [Option.isSome_none,gU,if_false];rw [Ew q1];simp_all
  grind [World.frozen?]
 ·refine ⟨.tuple #[], .tuple [],_,he,⟨rfl,rfl⟩,pl,M,qB,?_⟩;have hlen:(dD zs).length=zs.length:=(kn zs).length_eq;have hw1:w'.heap[p.blk]? = some (.cells (putCells (Value.int .i64) 0 (dD zs).toArray c) t (0,0)):=by rw [hw];exact qc hbl
  obtain ⟨r1,r2⟩:=sC (w':=w') (xs':=(dD zs).map be) hr hp hg hbl hw1 (by simp [putCells]) (by simp_all) (fun x hx=>by
    obtain ⟨z,_,rfl⟩:=jK.1 hx;exact ⟨rfl,fun y hy=>by simp [be,AV.cells] at hy;subst hy;rfl⟩) (fun i x j y q1 q2=>by
    rw [pH] at q1;obtain ⟨z,e1,rfl⟩:=Ek.1 q1;have hi:=(gj.1 e1).1;cases j with
    | succ j=>grind [be,AV.cells]
    | zero=>
     simp [be,AV.cells] at q2;subst q2;rw [Nat.mul_one,pj,nC (by omega) (hcell i zs[i] (lm (by omega))).1];have:(dD zs).toArray[i]! = z:=by simp_all
     rw [this];exact .int _ _) (by grind [nE]) (by simp_all) (fun b hb hne=>by grind [kZ])
  exact ⟨r1,r2,ah _⟩
def bz (zs:List Int):List Int:=Lib.compact zs
theorem wm (zs:List Int):(bz zs).length≤zs.length:=by grind [bz,Lib.compact,Lib.compactUpTo]
theorem va {f:FuncId} (hE : ∀ vs w,(callFunc f vs).run P w = .ok (.enter f vs) w)
  (hC : ∀ (blk off cap:Nat) (zs:List Int) (w:World),Holds (Value.int .i64) w blk off zs.toArray→zs.length≤9223372036854775807→zs.length≤cap→
   Calls P f #[.slice (some ⟨blk,off,none⟩) zs.length cap] w fun e w'=>e = .returned (.slice (some ⟨blk,off,none⟩) (Lib.compact zs).length cap)∧∃ q,w'=putRow (Value.int .i64) (Sort.ahead w q) blk off (Lib.compact zs++List.replicate (zs.length - (Lib.compact zs).length) 0).toArray)
  {id ep:Nat} {op:Bool} (zs:List Int) (hg:h.get id=some (.row 1 op ep (zs.map be))) (hz:0<zs.length) (hb:zs.length<4611686018427387904) :
  aF P G f [.slice id ep 0 zs.length none] h (fun v h'=>v = .slice id ep 0 (bz zs).length none∧h'=h.put id (.row 1 op ep ((bz zs++List.replicate (zs.length - (bz zs).length) 0).map be))):=by
 intro pl M w vs hG hr hv;obtain ⟨a,rfl,hv1⟩:=Q4 hv;obtain ⟨p,c,t,cap',hp,hbl,rfl,hm,_,hlt⟩:=pR hr hv1 hg hz;have hcell : ∀ j z,zs[j]? = some z→j<c.size∧c.getD j undef = .int .i64 z:=by
  intro j z hj;have hx:(zs.map be)[j]? = some (be z):=by simp_all
  obtain ⟨q1,y,q2,q3⟩:=CX hm hx (j:=0) (by omega);rw [Nat.mul_one,pj] at q1 q3;simp [be,AV.cells] at q2;subst q2;refine ⟨q1,?_⟩;cases hq:c.getD j undef <;> rw [hq] at q3 <;> cases q3
  rfl
 have hle:=wm zs;have hcap:zs.length≤cap':=by grind [cases VRel]
 generalize hnew:bz zs++List.replicate (zs.length - (bz zs).length) 0=ns;have hnl:ns.length=zs.length:=by grind
 refine .inl ⟨hE _ _,Calls.mono (hC p.blk 0 cap' zs w (fun j hj=>?_) (by omega) hcap) fun e w' ⟨he,n,hw⟩=>?_⟩
 ·have hj':j<zs.length:=by omega
  obtain ⟨q1,q2⟩:=hcell j zs[j] (lm hj');rw [gY];refine ⟨?_,?_⟩
  ·simp only [World.cell?,hbl];simp only [Option.isSome_none,gU,if_false];rw [Ew q1];simp_all
  grind [World.frozen?]
 ·have hw2:w'=grow (putRow (Value.int .i64) (Sort.ahead w n) p.blk 0 ns.toArray) #[]:=by rw [hw,grow_empty];congr 2
  have hrel:VRel pl M (.slice id ep 0 (bz zs).length none) (.slice (some ⟨p.blk,0,none⟩) (bz zs).length cap'):=by
   cases hv1 with
   | slice hp he hl hk ha=>
    refine .slice hp he (by omega) hk fun e=>?_
    grind
  refine ⟨_,_,_,he,⟨rfl,rfl⟩,pl,M,hrel,?_⟩;have hw1:w'.heap[p.blk]? = some (.cells (putCells (Value.int .i64) 0 ns.toArray c) t (0,0)):=by grind [qc]
  obtain ⟨r1,r2⟩:=sC (w':=w') (xs':=ns.map be) hr hp hg hbl hw1 (by simp [putCells]) (by simp_all) (fun x hx=>by
    obtain ⟨z,_,rfl⟩:=jK.1 hx;exact ⟨rfl,fun y hy=>by simp [be,AV.cells] at hy;subst hy;rfl⟩) (fun i x j y q1 q2=>by
    rw [pH] at q1;obtain ⟨z,e1,rfl⟩:=Ek.1 q1;have hi:=(gj.1 e1).1;cases j with
    | succ j=>grind [be,AV.cells]
    | zero=>
     simp [be,AV.cells] at q2;subst q2;rw [Nat.mul_one,pj,nC (by omega) (hcell i zs[i] (lm (by omega))).1];have:ns.toArray[i]! = z:=by simp_all
     rw [this];exact .int _ _) (by grind [nE]) (by simp_all) (fun b hb hne=>by grind [kZ])
  exact ⟨r1,r2,ah _⟩
theorem CN {f:FuncId} (hE : ∀ vs w,(callFunc f vs).run P w = .ok (.enter f vs) w)
  (hC : ∀ (p:Option Addr) (cap:Nat) (w:World),Calls P f #[.slice p 0 cap] w fun e w'=>e = .returned (.tuple #[])∧w'=w):aO P G f [.nils] (.tuple []):=by
 intro h pl M w vs hG hr hv;obtain ⟨a,rfl,hv1⟩:=Q4 hv;cases hv1
 exact .inl ⟨hE _ _,Calls.mono (hC none 0 w) fun e w' ⟨he,hw⟩=>⟨.tuple #[], .tuple [],h,he,⟨rfl,rfl⟩,pl,M,qB,by simp_all [StepF.refl]⟩⟩
theorem uE {f:FuncId} {g:Fn} (hE : ∀ vs w,(callFunc f vs).run P w = .ok (.enter f vs) w)
  (hC : ∀ (p:Option Addr) (cap:Nat) (fv:Value) (w:World),Calls P f #[.slice p 0 cap,fv] w fun e w'=>e = .returned (.tuple #[])∧w'=w):aO P G f [.nils, .func g [] []] (.tuple []):=by
 intro h pl M w vs hG hr hv;obtain ⟨a,b,rfl,hv1,hv2⟩:=Ak hv;cases hv1
 exact .inl ⟨hE _ _,Calls.mono (hC none 0 b w) fun e w' ⟨he,hw⟩=>⟨.tuple #[], .tuple [],h,he,⟨rfl,rfl⟩,pl,M,qB,by simp_all [StepF.refl]⟩⟩
def Dz {α:Type} (cmp:α→α→Int) (a b:α):Bool:=decide (cmp a b<0)
theorem AD {f g:FuncId} {sz:Nat} (hGT:iD G) (hE : ∀ vs w,(callFunc f vs).run P w = .ok (.enter f vs) w) (hg2 : ∀ args w,(callFunc g args).run P w = .ok (.enter g args) w)
  (hC : ∀ (m:Nat) (enc:Fin (m+1)→List Value) (cf:Fin (m+1)→Fin (m+1)→Int) (blk off cap:Nat) (d:Array (Fin (m+1))) (w:World),(∀ x,(enc x).length=sz)→(∀ x,∀ v∈enc x,v.oneCell'=true)→SWO (ltOf cf)→
   CmpLays P g #[] enc sz cf blk off d.size w→HoldsK enc sz w blk off d→blk<w.heap.size→d.size<4611686018427387904→
   Calls P f #[.slice (some ⟨blk,off,none⟩) d.size cap, .func (.func g) #[] #[]] w fun e w'=>e = .returned (.tuple #[])∧∃ d' n os,PermIn 0 d.size d d'∧SortedIn (ltOf cf) 0 d.size d'∧w'=sortWorldK enc sz w blk off n d' os)
  {α:Type} [Inhabited α] (enc:α→AV) (cmp:α→α→Int) (hO:SWO (Dz cmp)) (hag : ∀ a,∃ cs,enc a = .agg cs) (htop : ∀ a,(enc a).top=0)
  (l:List α) (hcmp : ∀ a,a∈l→∀ b,b∈l→aO P G g [enc a,enc b] (.int .i64 (cmp a b)))
  {oid ep:Nat} {op:Bool} {cap:Option Nat} (hg:h.get oid=some (.row sz op ep (l.map enc))) (hz:0<l.length) (hb:l.length<4611686018427387904) :
  aF P G f [.slice oid ep 0 l.length cap, .func (.func g) [] []] h (fun v h'=>∃ l':List α,(l'.Perm l∧l'.Pairwise fun a b=>Dz cmp b a=false)∧v = .tuple []∧h'=h.put oid (.row sz op ep (l'.map enc))):=by
 intro pl M w vs hG hr hv;obtain ⟨a,fv,rfl,hv1,hv2⟩:=Ak hv;have e2:=yh hv2;subst e2;obtain ⟨p,c,t,cap',hp,hbl,rfl,hm,hsz0,hlt⟩:=pR hr hv1 hg hz;obtain ⟨m,hm1⟩ : ∃ m,l.length=m+1:=⟨l.length - 1,by omega⟩
 have hfit:=hm.fit;rw [cX,gY,hm1] at hfit;have helem : ∀ i:Fin (m+1),(l.map enc)[i.1]? = some (enc l[i.1]!):=fun i=>by
  have:=i.2;rw [pH,lm (by omega),getElem!_pos l i.1 (by omega)];rfl
 have hmul : ∀ i:Fin (m+1),i.1 * sz+sz≤(m+1) * sz:=fun i=>by have:=ef sz (Nat.succ_le_of_lt i.2);rwa [pL] at this
 generalize hcof:(fun i:Fin (m+1)=>(List.range sz).map fun j=>c.getD (i.1 * sz+j) undef)=cellsOf;have cl : ∀ i,(cellsOf i).length=sz:=fun i=>by rw [← hcof];simp
 have cg : ∀ i j,j<sz→(cellsOf i)[j]? = some (c.getD (i.1 * sz+j) undef):=fun i j hj=>by rw [← hcof];simp [hj]
 generalize hd:(Array.ofFn (n:=m+1) id)=d;have hds:d.size=m+1:=by rw [← hd];simp
 have hdg : ∀ j (hj:j<m+1),d[j]! = ⟨j,hj⟩:=fun j hj=>by rw [getElem!_pos d j (by omega)];subst hd;simp
 have hflat : ∀ (dk:Array (Fin (m+1))),dk.size=m+1→∀ i j,i<m+1→j<sz→(flatK cellsOf sz dk)[i * sz+j]! = c.getD ((dk[i]!).1 * sz+j) undef:=fun dk hdk i j hi hj=>by
  have h1:i * sz+j<dk.size * sz:=by have:=ef sz (Nat.succ_le_of_lt hi);rw [pL] at this;rw [hdk];omega
  rw [get_flatK cellsOf sz dk _ h1];have h2:(i * sz+j) / sz=i:=by rw [Nat.mul_comm,Nat.mul_add_div hsz0,Nat.div_eq_of_lt hj,pj]
  have h3:(i * sz+j) % sz=j:=by rw [Nat.mul_comm,Nat.mul_add_mod,Nat.mod_eq_of_lt hj]
  rw [h2,h3,getElem!_pos _ j (by rw [cl];exact hj)];have:=cg (dk[i]!) j hj;rw [lm (by rw [cl];exact hj)] at this;simpa using this
 have hH:HoldsK cellsOf sz w p.blk 0 d:=by
  intro k hk;rw [size_flatK,hds] at hk;have hi:k / sz<m+1:=Nat.div_lt_of_lt_mul (by rw [Nat.mul_comm];exact hk);have hj:k % sz<sz:=Nat.mod_lt _ hsz0;have hk2:k / sz * sz+k % sz=k:=by rw [Nat.mul_comm];exact Nat.div_add_mod k sz
  have:=hflat d hds (k / sz) (k % sz) hi hj;rw [hdg _ hi,hk2] at this;rw [this,gY];have hkc:k<c.size:=by omega
  refine ⟨?_,by simp [World.frozen?,hbl]⟩;simp only [World.cell?,hbl];simp only [Option.isSome_none,gU,if_false];rw [Ew hkc];simp [Array.getD,hkc]
 have hrelE : ∀ (i:Fin (m+1)) cs,enc l[i.1]! = .agg cs→cs.length=sz∧(∀ y,y∈cs→cG y=true)∧∀ (j:Nat) (y:AV),cs[j]? = some y→VRel pl M y (c.getD (i.1 * sz+j) undef):=by
  intro i cs hcs;have h1:=hm.elem _ (bm (helem i));rw [hcs] at h1;refine ⟨h1.1,h1.2,fun j y hj=>?_⟩;have:=hm.cell i.1 _ j y (helem i) (by rw [hcs];exact hj);rwa [gY] at this
 have hone : ∀ i,∀ v∈cellsOf i,v.oneCell'=true:=by
  intro i v hvm;obtain ⟨j,hj,e⟩:=xG hvm;rw [cl] at hj;have h1:=cg i j hj;rw [lm (by rw [cl];exact hj),e] at h1;obtain ⟨cs,hcs⟩:=hag l[i.1]!;obtain ⟨k1,k2,k3⟩:=hrelE i cs hcs;have:=k3 j cs[j] (lm (by omega));cases h1
  exact this.one (k2 _ (CB _))
 have hmemL : ∀ i:Fin (m+1),l[i.1]!∈l:=fun i=>by
  have:=i.2;rw [getElem!_pos l i.1 (by omega)];exact CB _
 have hlays:CmpLays P g #[] cellsOf sz (fun i j=>cmp l[i.1]! l[j.1]!) p.blk 0 d.size w:=by
  intro n os dk hdk x y;generalize hW:sortWorldK cellsOf sz w p.blk 0 n dk os=W;have hWo : ∀ b,b<w.heap.size→b≠p.blk→W.heap[b]? = w.heap[b]?:=fun b h1 h2=>by rw [← hW];exact kZ h1 h2
  have hrW:cE (fun _=>none) M AHeap.none W:=qJ (pl:=fun _=>none) (n:=0) (g:=AHeap.none.get) ⟨fun _ _ h=>by simp at h,fun _ _ _ h=>by simp at h,fun _ _ h=>by simp at h,fun _ _ _ _ h=>by simp at h,fun b c' hM=>by
   obtain ⟨t',fr,q⟩:=hr.imm b c' hM;refine ⟨t',fr,?_⟩;rw [hWo b (hr.memLt hM) (fun e=>by have:=hr.sep oid p hp;rw [← e,hM] at this;cases this)];exact q,fun _ _ h=>by simp at h⟩
  have hrel : ∀ i:Fin (m+1),VRel (fun _=>none) M (enc l[i.1]!) (.agg (cellsOf i).toArray):=by
   intro i;obtain ⟨cs,hcs⟩:=hag l[i.1]!;obtain ⟨k1,k2,k3⟩:=hrelE i cs hcs;have ht:=htop l[i.1]!;rw [hcs] at ht ⊢;refine .agg (by simp [cl,k1]) k2 fun j y hj=>?_
   have hj':j<sz:=by rw [← k1];exact (gj.1 hj).1
   have e:(cellsOf i).toArray.getD j undef=c.getD (i.1 * sz+j) undef:=by
    have:=cg i j hj';rw [gi,nN,this];rfl
   rw [e];exact (k3 j y hj).none (jN.1 ht y (bm hj))
  have hc:=hcmp _ (hmemL x) _ (hmemL y) AHeap.none (fun _=>none) M W #[.agg (cellsOf x).toArray, .agg (cellsOf y).toArray] (hG.none hGT) hrW ⟨rfl,fun j z hj=>by
   match j,hj with
   | 0,hj=>cases hj;exact hrel x
   | 1,hj=>cases hj;exact hrel y⟩
  rcases hc with ⟨h1,h2⟩ | ⟨cv,w',v,h',h1,h2,h3⟩
  ·refine Calls.mono h2 fun e w' ⟨cv,v,h',k1,k2,pl',M',k3,k4,k5,k6⟩=>?_
   obtain ⟨k2,_⟩:=k2;subst k2;cases k3
   refine ⟨k1,?_⟩;obtain ⟨q,hq⟩:=regrown_of_below (w:=W) (w':=w') ⟨k5.os,k5.tape,k5.out,k5.size,fun b hb=>k5.kept b hb fun id p h=>by simp at h⟩;refine ⟨w'.drawn - W.drawn,q.os,?_⟩;have hd1:w'.drawn=q.d:=by rw [hq];rfl
   have hd2:=k5.drawn;have:redrawn W q.d=W.drewN (w'.drawn - W.drawn):=by
    show ({ W with drawn:=q.d } : World) = { W with drawn:=W.drawn+(w'.drawn - W.drawn) }
    congr 1;omega
   rw [← this];exact hq
  ·rw [hg2] at h1;cases h1
 refine .inl ⟨hE _ _,?_⟩;have hcall:=hC m cellsOf (fun i j=>cmp l[i.1]! l[j.1]!) p.blk 0 cap' d w cl hone ⟨fun x=>hO.irrefl _,fun x y z=>hO.trans _ _ _,fun x y z=>hO.ntrans _ _ _⟩ hlays hH hlt (by omega);rw [show d.size=l.length by omega] at hcall;refine Calls.mono hcall fun e w' ⟨he,d',n,os,hP,hS,hw⟩=>?_
 obtain ⟨hp1,_,hp3⟩:=hP;have hd's:d'.size=m+1:=by omega
 have hperm:d'.toList.Perm d.toList:=by
  have e1:d'.extract 0 l.length=d':=by rw [show l.length=d'.size by omega];exact Array.extract_size
  have e2:d.extract 0 l.length=d:=by rw [show l.length=d.size by omega];exact Array.extract_size
  rwa [e1,e2] at hp3
 have hdl:d.toList.map (fun i=>l[i.1]!)=l:=by
  apply List.ext_getElem?;intro i;by_cases hi:i<l.length
  ·rw [pH,Array.getElem?_toList,Ew (by omega),lm hi];have:=hdg i (by omega);rw [getElem!_pos d i (by omega)] at this;rw [this];show some (l[i]!)=some l[i]
   rw [getElem!_pos l i hi]
  ·rw [List.getElem?_eq_none (by simp;omega),List.getElem?_eq_none (by omega)]
 have hl':(d'.toList.map (fun i=>l[i.1]!)).length=l.length:=by simp;omega
 refine ⟨.tuple #[], .tuple [],_,he,⟨d'.toList.map (fun i=>l[i.1]!),⟨?_,?_⟩,rfl,rfl⟩,pl,M,qB,?_⟩
 ·have:=hperm.map (fun i=>l[i.1]!);rwa [hdl] at this
 ·rw [Ej];intro i j hi hj hij;have hi':i<d'.size:=by simpa using hi
  have hj':j<d'.size:=by simpa using hj
  have:=hS i j (bG _) hij (by omega);rw [getElem!_pos d' i hi',getElem!_pos d' j hj'] at this;simpa [Dz,ltOf] using this
 ·have hw1:w'.heap[p.blk]? = some (.cells (putCells id 0 (flatK cellsOf sz d') c) t (0,0)):=by rw [hw];exact qc hbl
  obtain ⟨r1,r2⟩:=sC (w':=w') (xs':=(d'.toList.map (fun i=>l[i.1]!)).map enc) hr hp hg hbl hw1 (by simp [putCells]) (by simp;omega) (fun x hx=>by
    obtain ⟨z,h1,rfl⟩:=jK.1 hx;obtain ⟨i,_,rfl⟩:=jK.1 h1;exact hm.elem _ (bm (helem i))) (fun i x j y q1 q2=>by
    rw [pH,pH,Array.getElem?_toList] at q1;obtain ⟨z,e1,rfl⟩:=Ek.1 q1;obtain ⟨k,e2,rfl⟩:=Ek.1 e1;have hi:i<d'.size:=(vp.1 e2).1;obtain ⟨cs,hcs⟩:=hag l[k.1]!;obtain ⟨k1,k2,k3⟩:=hrelE k cs hcs;rw [hcs] at q2;have hj:j<sz:=by rw [← k1];exact (gj.1 q2).1
    have hb1:i * sz+j<(m+1) * sz:=by have:=ef sz (Nat.succ_le_of_lt (show i<m+1 by omega));rw [pL] at this;omega
    rw [nC (by rw [size_flatK,hd's];exact hb1) (by omega)];have:=hflat d' hd's i j (by omega) hj;have e3:d'[i]! = k:=by rw [getElem!_pos d' i hi];rw [Ew hi] at e2;simpa using e2
    rw [e3] at this;show VRel pl M y (flatK cellsOf sz d')[i * sz+j]!
    rw [this];exact k3 j y q2) (by rw [hw];exact nE) (by rw [hw];exact AO) (fun b hb hne=>by rw [hw];exact kZ hb hne)
  exact ⟨r1,r2,ah _⟩
end
end Go.Ev
namespace Go.Ev
open Go
theorem xt (a b:Int):aB (jH a b) 0=aB a b:=by
 unfold jH;cases h:aB a b with
 | true=>rfl
 | false=>cases h2:aB b a <;> rfl
noncomputable def nI (l:List PSpan) (d:Int):Nat:=(l.takeWhile fun s=>aB s.from_ d).length
theorem DC (l:List PSpan) (d:Int):nI l d≤l.length:=by
 induction l with
 | nil=>simp [nI]
 | cons a r ih=>grind [nI,List.takeWhile_cons]
def rH (l:List PSpan):Prop:=l.Pairwise fun a b=>a.from_≤b.from_
theorem AW {d:Int} : ∀ {l:List PSpan},rH l→∀ k,k<l.length→(aB (gD l k).from_ d=true↔k<nI l d)
 | [],_,k,h=>by simp_all
 | a::r,hs,k,h=>by
  obtain ⟨h1,h2⟩:=kw.1 hs;unfold nI;rw [List.takeWhile_cons];cases q:aB a.from_ d with
  | true=>
   simp only [if_true,cN];cases k with
   | zero=>grind [gD]
   | succ k=>
    have:=AW (d:=d) h2 k (by simp_all);rw [show gD (a::r) (k+1)=gD r k from rfl,this];grind [nI]
  | false=>
   simp only [gU,if_false,gh,pD,iff_false,Bool.not_eq_true];have hd:=aL q;grind [gH,lO]
noncomputable def IJ (l:List PSpan) (d:Int):Bool:=aB (Int.ofNat (nI l d)) (Int.ofNat l.length) && ab (jH (gD l (nI l d)).from_ d) 0
theorem Nw {l:List PSpan} (h:l.Pairwise fun a b=>a.to<b.from_) (h2 : ∀ s,s∈l→s.from_<s.to):rH l:=by
 induction l with
 | nil=>exact .nil
 | cons a r ih=>
  obtain ⟨h3,h4⟩:=kw.1 h;refine kw.2 ⟨fun b hb=>?_,ih h4 fun s hs=>h2 s (fK _ hs)⟩;grind
structure NrmS (l:List PSpan):Prop where
 gap:l.Pairwise fun a b=>a.to<b.from_
 ok : ∀ s,s∈l→0≤s.from_∧s.from_<s.to∧s.to≤1048577
theorem NrmS.sort {l:List PSpan} (h:NrmS l):rH l:=Nw h.gap fun s hs=>(h.ok s hs).2.1
theorem HJ : ∀ {l:List PSpan} {b:Int},l.Pairwise (fun a b=>a.to<b.from_)→(∀ s,s∈l→b≤s.from_∧s.from_<s.to∧s.to≤1048577)→b≤1048577→Int.ofNat l.length≤1048577 - b
 | [],b,_,_,hb=>by simp_all
 | a::r,b,h,h2,hb=>by
  obtain ⟨h3,h4⟩:=kw.1 h;have h5:=h2 a (fg ..);have:=HJ (l:=r) (b:=b+1) h4 (fun s hs=>by grind) (by omega);grind
theorem NrmS.len {l:List PSpan} (h:NrmS l):l.length≤1048577:=by
 have:=HJ (b:=0) h.gap h.ok (by omega);grind
noncomputable def iw (l:List PSpan) (d:Int):Bool:=IJ l d || (aB 0 (Int.ofNat (nI l d)) && aB d (gD l (nI l d - 1)).to)
theorem DY (a b:Int):BO a b=max a b:=by
 unfold BO;cases h:aB a b with
 | true=>have:=au h;grind
 | false=>have:=aL h;grind
theorem H2 (a b:Int):LH a b=min a b:=by
 unfold LH;cases h:aB b a with
 | true=>have:=au h;grind
 | false=>have:=aL h;grind
noncomputable abbrev Ue (s:PSpan):PSpan:=⟨BO s.from_ 0,LH s.to 1048577⟩
noncomputable abbrev Wq (s:PSpan):Bool:=aB (BO s.from_ 0) (LH s.to 1048577)
noncomputable def jj:List PSpan→List PSpan
 | []=> []
 | s::r=>match Wq s with | true=>Ue s::jj r | false=>jj r
theorem ux {s:PSpan} {r:List PSpan} (h:Wq s=true):jj (s::r)=Ue s::jj r:=by grind [jj]
theorem uj {s:PSpan} {r:List PSpan} (h:Wq s=false):jj (s::r)=jj r:=by grind [jj]
theorem Ch : ∀ (l:List PSpan),(jj l).length≤l.length
 | []=>by simp [jj]
 | s::r=>by
  have:=Ch r;cases h:Wq s with
  | true=>grind [ux]
  | false=>grind [uj]
theorem AJ : ∀ {l:List PSpan} {s:PSpan},s∈jj l→0≤s.from_∧s.from_<s.to∧s.to≤1048577
 | a::r,s,hs=>by
  cases h:Wq a with
  | true=>
   rw [ux h] at hs;rcases eP.1 hs with e | e
   ·subst e;have h2:=au h;grind [DY,H2]
   ·exact AJ e
  | false=>rw [uj h] at hs;exact AJ hs
def memB (l:List PSpan) (d:Int):Bool:=l.any fun s=>decide (s.from_≤d∧d<s.to)
def Nc (d:Int):Bool:=decide (0≤d∧d<1048577)
theorem mF (d:Int):memB [] d=false:=rfl
theorem ec (a:PSpan) (l:List PSpan) (d:Int):memB (a::l) d=(decide (a.from_≤d∧d<a.to) || memB l d):=rfl
theorem yS (l r:List PSpan) (d:Int):memB (l++r) d=(memB l d || memB r d):=by simp [memB]
theorem jz {l:List PSpan} {d:Int} : memB l d=true↔∃ s,s∈l∧s.from_≤d∧d<s.to:=by simp [memB]
theorem LL {l r:List PSpan} (h:l.Perm r) (d:Int):memB l d=memB r d:=by
 rw [CC,jz,jz];grind
theorem Cg : ∀ (l:List PSpan) (d:Int),memB (jj l) d=(Nc d && memB l d)
 | [],d=>by simp [jj,memB]
 | a::r,d=>by
  have ih:=Cg r d;have e : ∀ b:Bool,(b=decide (0≤d∧d<1048577∧a.from_≤d∧d<a.to))→(b || (Nc d && memB r d))=(Nc d && memB (a::r) d):=fun b hb=>by grind [ec,Nc]
  cases h:Wq a with
  | true=>
   rw [ux h,ec,ih];refine e _ ?_;simp only [DY,H2];grind
  | false=>
   rw [uj h,ih];have h2:=aL h;simp only [DY,H2] at h2;grind
theorem NrmS.tail {a:PSpan} {r:List PSpan} (h:NrmS (a::r)):NrmS r:=⟨(kw.1 h.gap).2,fun s hs=>h.ok s (fK _ hs)⟩
theorem NrmS.low {a x:PSpan} {r:List PSpan} (h:NrmS (a::r)) (hx:x∈r):a.to<x.from_:=(kw.1 h.gap).1 x hx
theorem NrmS.head {a:PSpan} {r:List PSpan} (h:NrmS (a::r)):0≤a.from_∧a.from_<a.to∧a.to≤1048577:=h.ok a (fg ..)
theorem xd:NrmS []:=⟨.nil,fun s h=>by grind⟩
theorem qM {a:PSpan} {r:List PSpan} (h:NrmS (a::r)):memB (a::r) a.from_=true:=by grind [ec,cases NrmS]
theorem Fx {a:PSpan} {r:List PSpan} (h:NrmS (a::r)) {d:Int} (hd:memB (a::r) d=true):a.from_≤d:=by
 obtain ⟨s,h1,h2,h3⟩:=jz.1 hd;rcases eP.1 h1 with e | e
 ·simp_all
 ·have:=h.low e;grind [cases NrmS]
theorem O1 {a:PSpan} {r:List PSpan} (h:NrmS (a::r)):memB (a::r) a.to=false:=by
 cases q:memB (a::r) a.to with
 | false=>rfl
 | true=>
  obtain ⟨s,h1,h2,h3⟩:=jz.1 q;rcases eP.1 h1 with e | e
  ·simp_all
  ·have:=h.low e;omega
theorem Fz {a:PSpan} {r:List PSpan} (h:NrmS (a::r)) (d:Int):memB r d=(decide (a.to≤d) && memB (a::r) d):=by
 rw [ec];by_cases h1:a.to≤d
 ·grind
 ·have:memB r d=false:=by
   cases q:memB r d with
   | false=>rfl
   | true=>
    obtain ⟨s,h2,h3,h4⟩:=jz.1 q;have:=h.low h2;omega
  grind
theorem yH : ∀ {r s:List PSpan},NrmS r→NrmS s→(∀ d,memB r d=memB s d)→r=s
 | [], [],_,_,_=>rfl
 | [],b::s,_,hs,h=>by grind [qM,mF]
 | a::r, [],hr,_,h=>by grind [qM,mF]
 | a::r,b::s,hr,hs,h=>by
  have h1:b.from_≤a.from_:=Fx hs (by grind [qM]);have h2:a.from_≤b.from_:=Fx hr (by grind [qM]);have ha:=hr.head;have hb:=hs.head;have h3 : ¬ a.to<b.to:=fun q=>by grind [ec,O1]
  have h4 : ¬ b.to<a.to:=fun q=>by grind [ec,O1]
  have e:a=b:=by
   obtain ⟨a1,a2⟩:=a;obtain ⟨b1,b2⟩:=b;grind
  subst e;rw [yH hr.tail hs.tail fun d=>by rw [Fz hr,Fz hs,h]]
def vg (f:Int→Bool) (d:Int) (l:List PSpan):List PSpan:=match f d with
 | false=>l
 | true=>match l with
  | []=> [⟨d,d+1⟩]
  | s::r=>if s.from_=d+1 then ⟨d,s.to⟩::r else ⟨d,d+1⟩::s::r
def vO (f:Int→Bool):Nat→List PSpan
 | 0=> []
 | k+1=>vg f (1048577 - Int.ofNat (k+1)) (vO f k)
theorem NY {f:Int→Bool} {d:Int} {l:List PSpan} (h0:0≤d) (h1:d+1≤1048577) (hl:NrmS l) (hf : ∀ s,s∈l→d+1≤s.from_) :
  NrmS (vg f d l)∧(∀ s,s∈vg f d l→d≤s.from_)∧∀ e,memB (vg f d l) e=((decide (e=d) && f e) || memB l e):=by
 unfold vg;cases hfd:f d with
 | false=>grind
 | true=>
  match l,hl,hf with
  | [],_,_=>
   refine ⟨⟨by simp,fun s hs=>by grind⟩,fun s hs=>by simp_all,fun e=>?_⟩;simp only [ec,mF,Bool.or_false];grind
  | s::r,hl,hf=>
   have hs:=hl.head;have hs2:=hf s (fg ..);simp only [];by_cases q:s.from_=d+1
   ·rw [if_pos q];refine ⟨⟨kw.2 ⟨fun x hx=>hl.low hx,hl.tail.gap⟩,fun x hx=>?_⟩,fun x hx=>?_,fun e=>?_⟩
    ·grind [cases NrmS]
    ·grind
    ·simp only [ec];grind
   ·rw [if_neg q];refine ⟨⟨kw.2 ⟨fun x hx=>?_,hl.gap⟩,fun x hx=>?_⟩,fun x hx=>?_,fun e=>?_⟩
    ·have:=hf x hx;rcases eP.1 hx with e | e
     ·grind
     ·have:=hl.low e;grind
    ·rcases eP.1 hx with e | e
     ·grind
     ·exact hl.ok x e
    ·grind
    ·rw [ec];grind
theorem E2 (f:Int→Bool) : ∀ k,k≤1048577→NrmS (vO f k)∧(∀ s,s∈vO f k→1048577 - Int.ofNat k≤s.from_)∧∀ e,memB (vO f k) e=(decide (1048577 - Int.ofNat k≤e∧e<1048577) && f e)
 | 0,_=>by
  refine ⟨xd,fun s h=>(by cases h),fun e=>?_⟩;have:decide (1048577 - Int.ofNat 0≤e∧e<1048577)=false:=by simp_all
  rw [this];rfl
 | k+1,hk=>by
  obtain ⟨h1,h2,h3⟩:=E2 f k (by omega);simp only [aI] at *;have:=NY (f:=f) (d:=1048577 - ((k+1:Nat):Int)) (l:=vO f k) (by omega) (by omega) h1 (fun s hs=>by grind);have h5:vO f (k+1)=vg f (1048577 - ((k+1:Nat):Int)) (vO f k):=by grind [vO]
  grind
theorem O3 (f:Int→Bool) : ∃ l:List PSpan,NrmS l∧∀ d,memB l d=(Nc d && f d):=by
 obtain ⟨h1,_,h3⟩:=E2 f 1048577 (ah _);exact ⟨_,h1,fun d=>by simp_all [Nc]⟩
noncomputable def nf (f:Int→Bool):List PSpan:=Classical.choose (O3 f)
theorem yL (f:Int→Bool):NrmS (nf f):=(Classical.choose_spec (O3 f)).1
theorem HS (f:Int→Bool) (d:Int):memB (nf f) d=(Nc d && f d):=(Classical.choose_spec (O3 f)).2 d
theorem O4 {f:Int→Bool} {r:List PSpan} (h:NrmS r) (hm : ∀ d,memB r d=(Nc d && f d)):r=nf f:=yH h (yL f) fun d=>by grind [HS]
theorem O5 {f g:Int→Bool} (h : ∀ d,Nc d=true→f d=g d):nf f=nf g:=O4 (yL f) fun d=>by
 rw [HS];grind
theorem Sw {l:List PSpan} (h:NrmS l):l=nf (memB l):=O4 h fun d=>by
 cases q:memB l d with
 | false=>simp_all
 | true=>
  obtain ⟨s,h1,h2,h3⟩:=jz.1 q;have:=h.ok s h1;have:Nc d=true:=by unfold Nc;grind
  simp_all
theorem CF {α:Type} [Inhabited α] {l:List α} {n:Nat} (h:n<l.length):l.take (n+1)=l.take n++ [gD l n]:=by grind [List.take_add_one,gD]
theorem Do {α:Type} [Inhabited α] {l:List α} {n:Nat} (h:n<l.length):l.drop n=gD l n::l.drop (n+1):=by grind [List.drop_eq_getElem_cons,gD]
theorem s9 {α:Type} {l:List α} {n m:Nat} {x:α} (h:n≤m):(l.set m x).take n=l.take n:=by
 apply List.ext_getElem?;grind
theorem P0 {α:Type} [Inhabited α] {l:List α} {i k:Nat} {x:α} (h:i<l.length):gD (l.set i x) k=if k=i then x else gD l k:=by
 unfold gD List.getD;grind
theorem rH.at {l:List PSpan} (h:rH l) {i k:Nat} (hik:i≤k) (hk:k<l.length):(gD l i).from_≤(gD l k).from_:=by
 rcases fh i k with q | q
 ·have:=Ej.1 h i k (by omega) hk q;grind [gD]
 grind
structure MergeI (l cur:List PSpan) (n i:Nat):Prop where
 len:cur.length=l.length
 le:n≤i
 il:i≤l.length
 pos:0<i→0<n
 rest : ∀ k,i≤k→k<l.length→gD cur k=gD l k
 gap : ∀ j k,j<k→k<n→(gD cur j).to<(gD cur k).from_
 ok : ∀ k,k<n→0≤(gD cur k).from_∧(gD cur k).from_<(gD cur k).to∧(gD cur k).to≤1048577
 last:0<n→∀ k,i≤k→k<l.length→(gD cur (n - 1)).from_≤(gD l k).from_
 mem : ∀ d,(memB (cur.take n) d || memB (l.drop i) d)=memB l d
theorem MergeI.start (l:List PSpan):MergeI l l 0 0:=⟨rfl,ah _,bG _,fun h=>absurd h (vt _),fun _ _ _=>rfl,fun _ _ _ h=>absurd h (pD _),fun _ h=>absurd h (pD _),fun h=>absurd h (vt _),fun d=>by simp [memB]⟩
theorem MergeI.copy {l cur:List PSpan} {n i:Nat} (h:MergeI l cur n i) (hi:i<l.length) (hs:rH l) (hok : ∀ k,k<l.length→0≤(gD l k).from_∧(gD l k).from_<(gD l k).to∧(gD l k).to≤1048577)
  (hn:n=0∨(gD cur (n - 1)).to<(gD cur i).from_):MergeI l (cur.set n (gD cur i)) (n+1) (i+1):=by
 rw [h.rest i (ah _) hi] at hn ⊢;have hl:=h.le;have hcl:=h.len;have hg : ∀ k,gD (cur.set n (gD l i)) k=if k=n then gD l i else gD cur k:=fun k=>P0 (by omega)
 refine ⟨by simp_all,by omega,by omega,fun _=>by omega,fun k h1 h2=>?_,fun j k h1 h2=>?_,fun k h1=>?_,fun _ k h1 h2=>?_,fun d=>?_⟩
 ·grind [cases MergeI]
 ·rw [hg,hg,if_neg (by omega)];by_cases e:k=n
  ·rw [if_pos e];rcases hn with hn | hn
   ·omega
   ·by_cases e2:j=n - 1
    ·simp_all
    ·have h3:=h.gap j (n - 1) (by omega) (by omega);grind [cases MergeI]
  ·grind [cases MergeI]
 ·rw [hg];by_cases e:k=n
  ·simp_all
  ·grind [cases MergeI]
 ·rw [hg,if_pos (by omega)];exact hs.at (by omega) h2
 ·rw [CF (by grind),hg,if_pos rfl,s9 (ah _),yS,← h.mem d,Do hi,ec,ec,mF];grind
theorem MergeI.join {l cur:List PSpan} {n i:Nat} (h:MergeI l cur n i) (hi:i<l.length) (hs:rH l) (hok : ∀ k,k<l.length→0≤(gD l k).from_∧(gD l k).from_<(gD l k).to∧(gD l k).to≤1048577)
  (hn:0<n) (hle:(gD cur i).from_≤(gD cur (n - 1)).to) (x:Int) (hx:x=BO (gD cur (n - 1)).to (gD cur i).to):MergeI l (cur.set (n - 1) ⟨(gD cur (n - 1)).from_,x⟩) n (i+1):=by
 rw [h.rest i (ah _) hi] at hle;rw [h.rest i (ah _) hi,DY] at hx;have hl:=h.le;have hcl:=h.len;have hg : ∀ k,gD (cur.set (n - 1) ⟨(gD cur (n - 1)).from_,x⟩) k=if k=n - 1 then ⟨(gD cur (n - 1)).from_,x⟩ else gD cur k:=fun k=>P0 (by omega)
 have h4:=h.ok (n - 1) (by omega);have h5:=hok i hi;have h6:=h.last hn i (ah _) hi;refine ⟨by simp_all,by omega,by omega,fun _=>hn,fun k h1 h2=>?_,fun j k h1 h2=>?_,fun k h1=>?_,fun _ k h1 h2=>?_,fun d=>?_⟩
 ·grind [cases MergeI]
 ·rw [hg,hg,if_neg (by omega)];by_cases e:k=n - 1
  ·grind [cases MergeI]
  ·grind [cases MergeI]
 ·rw [hg];by_cases e:k=n - 1
  ·grind
  ·grind [cases MergeI]
 ·grind [cases MergeI]
 ·obtain ⟨m,rfl⟩ : ∃ m,n=m+1:=⟨n - 1,by omega⟩
  simp only [Nat.add_sub_cancel] at *;rw [CF (by grind),hg,if_pos rfl,s9 (ah _),yS,← h.mem d,Do hi,ec (gD l i),CF (by omega),yS,ec,ec,mF,Bool.or_false,Bool.or_false];grind
theorem MergeI.nrm {l cur:List PSpan} {n i:Nat} (h:MergeI l cur n i):NrmS (cur.take n):=by
 have hl:=h.le;have hcl:=h.len;have hil:=h.il;have hlen:(cur.take n).length=n:=by grind
 have hg : ∀ k (hk:k<(cur.take n).length),(cur.take n)[k]=gD cur k:=fun k hk=>by rw [List.getElem_take];unfold gD List.getD;grind
 refine ⟨?_,fun s hs=>?_⟩;all_goals grind [List.pairwise_iff_getElem,List.getElem_of_mem,cases MergeI]
theorem MergeI.done {l cur:List PSpan} {n i:Nat} (h:MergeI l cur n i) (hi:l.length≤i) (d:Int):memB (cur.take n) d=memB l d:=by rw [← h.mem d,Ex hi,mF,Bool.or_false]
theorem QN {l l':List PSpan} (hp:l'.Perm (jj l)) : ∀ k,k<l'.length→0≤(gD l' k).from_∧(gD l' k).from_<(gD l' k).to∧(gD l' k).to≤1048577:=fun k hk=>AJ (hp.mem_iff.1 (gH hk))
noncomputable def iR (l:List PSpan):List PSpan:=nf (memB l)
theorem Fk {l r:List PSpan} (h:NrmS r) (hm : ∀ d,memB r d=memB (jj l) d):r=iR l:=O4 h fun d=>by grind [Cg]
theorem LD {l:List PSpan} (h:jj l = []) : []=iR l:=Fk xd fun d=>by grind
end Go.Ev
namespace Go.Ev
open Go
theorem IB {zs:List Int} (hs:zs.Pairwise fun a b=>a≤b):(bz zs).Pairwise (fun a b=>a<b)∧∀ z,z∈bz zs↔z∈zs:=by
 generalize hd:zs.toArray=d;have hsz:d.size=zs.length:=by grind
 have hx : ∀ j (hj:j<zs.length),d[j]! = zs[j]:=fun j hj=>by grind
 have mono : ∀ i j,i≤j→j<zs.length→d[i]!≤d[j]!:=fun i j hij hj=>by
  rcases fh i j with q | q
  ·rw [hx i (by omega),hx j hj];exact Ej.1 hs i j (by omega) hj q
  grind
 have key : ∀ m,m≤zs.length→(Lib.compactUpTo d m).Pairwise (fun a b=>a<b)∧(∀ z,z∈Lib.compactUpTo d m→∃ j,j<m∧z=d[j]!)∧∀ j,j<m→d[j]!∈Lib.compactUpTo d m:=by
  intro m;induction m with
  | zero=>simp_all [Lib.compactUpTo]
  | succ m ih=>
   intro hm;obtain ⟨h1,h2,h3⟩:=ih (by omega);rw [Lib.compactUpTo_succ];cases hk:Lib.keeps d m with
   | true=>
    simp only [if_true];have hk':m=0∨d[m]!≠d[m - 1]!:=by grind [Lib.keeps]
    refine ⟨List.pairwise_append.2 ⟨h1,by simp,fun a ha b hb=>?_⟩,fun z hz=>?_,fun j hj=>?_⟩
    ·obtain ⟨j,hj,rfl⟩:=h2 a ha;have hb:b=d[m]!:=by simp_all
     subst hb;have e1:=mono j (m - 1) (by omega) (by omega);have e2:=mono (m - 1) m (by omega) (by omega);omega
    all_goals grind
   | false=>
    simp only [gU,if_false,dB];have hk' : ¬ (m=0∨d[m]!≠d[m - 1]!):=by grind [Lib.keeps]
    grind
 obtain ⟨h1,h2,h3⟩:=key zs.length (ah _);have e:bz zs=Lib.compactUpTo d zs.length:=by grind [bz,Lib.compact]
 rw [e];refine ⟨h1,fun z=>⟨fun hz=>?_,fun hz=>?_⟩⟩
 ·grind
 ·obtain ⟨j,hj,rfl⟩:=xG hz;simp_all
theorem NrmS.at {l:List PSpan} (h:NrmS l) {j k:Nat} (hjk:j<k) (hk:k<l.length):(gD l j).to<(gD l k).from_:=by
 have:=Ej.1 h.gap j k (by omega) hk hjk;grind [gD]
theorem NrmS.okAt {l:List PSpan} (h:NrmS l) {k:Nat} (hk:k<l.length):0≤(gD l k).from_∧(gD l k).from_<(gD l k).to∧(gD l k).to≤1048577:=h.ok _ (gH hk)
theorem Sm {l:List PSpan} {d:Int} : memB l d=true↔∃ k,k<l.length∧(gD l k).from_≤d∧d<(gD l k).to:=by
 rw [jz];constructor
 ·rintro ⟨s,h1,h2⟩
  obtain ⟨k,hk,e⟩:=xG h1;have:gD l k=s:=by grind [gD]
  grind
 grind [gH]
theorem Ce {a b:Int} : ab (jH a b) 0=true↔a=b:=by
 unfold jH;cases h:aB a b with
 | true => have:=au h;constructor
           ·intro h;cases h
           omega
 | false=>
  have:=aL h;cases h2:aB b a with
  | true => have:=au h2;constructor
            ·intro h;cases h
            omega
  | false=>have:=aL h2;exact ⟨fun _=>by omega,fun _=>rfl⟩
theorem Sl {l:List PSpan} (h:NrmS l) (d:Int):iw l d=memB l d:=by
 have hi:=AW (d:=d) h.sort;have hc:=DC l d;rw [CC,Sm];unfold iw IJ;simp only [sH,bJ];constructor
 ·rintro (⟨h1,h2⟩ | ⟨h1,h2⟩)
  ·have h1:=au h1;simp only [aI] at h1;have h2:=Ce.1 h2;have:=h.okAt (k:=nI l d) (by omega);grind
  ·have h1:=au h1;have h2:=au h2;simp only [aI] at h1;have h3:=au ((hi (nI l d - 1) (by omega)).2 (by omega));grind
 ·rintro ⟨k,hk,h1,h2⟩
  by_cases e:(gD l k).from_=d
  ·left;have e1 : ¬ k<nI l d:=fun q=>by have:=au ((hi k hk).2 q);omega
   have e2 : ¬ nI l d<k:=fun q=>by
    have h3:=h.at q hk;have h4:=h.okAt (k:=nI l d) (by omega);grind [ny]
   have e3:nI l d=k:=by omega
   rw [e3];exact ⟨ny (by simp_all),Ce.2 e⟩
  ·right;have e1:k<nI l d:=(hi k hk).1 (ny (by omega));have e2 : ¬ k+1<nI l d:=fun q=>by
    have h3:=h.at (j:=k) (k:=k+1) (by omega) (by omega);have:=au ((hi (k+1) (by omega)).2 q);omega
   grind [ny]
def pZ (l:List PSpan):List Int:=l.flatMap fun s=> [s.from_,s.to]
theorem Cy (s:PSpan) (r:List PSpan):pZ (s::r) = [s.from_,s.to]++pZ r:=by simp [pZ]
theorem kW : ∀ (l:List PSpan),(pZ l).length=2 * l.length
 | []=>rfl
 | s::r=>by rw [Cy];simp [kW r];omega
theorem Gc {l:List PSpan} {s:PSpan} (h:s∈l):s.from_∈pZ l∧s.to∈pZ l:=by
 unfold pZ;grind
def jS (g:Int→Bool):List Int→List PSpan
 | []=> []
 | a::r=>match r with
  | []=> []
  | b::_=>match g a with
   | true=>⟨a,b⟩::jS g r
   | false=>jS g r
theorem ES (g:Int→Bool) (a b:Int) (r:List Int):jS g (a::b::r)=match g a with | true=>⟨a,b⟩::jS g (b::r) | false=>jS g (b::r):=by rw [jS]
def rB:Int→List Int→Int
 | a, []=>a
 | _,b::r=>rB b r
theorem zY : ∀ {r:List Int} {a:Int},(a::r).Pairwise (fun a b=>a<b)→a≤rB a r∧∀ z,z∈r→z≤rB a r
 | [],a,_=>⟨Int.le_refl _,fun z h=>by grind⟩
 | b::r,a,h=>by
  obtain ⟨h1,h2⟩:=kw.1 h;have h3:=h1 b (fg ..);obtain ⟨k1,k2⟩:=zY h2;grind [rB]
theorem ET {g:Int→Bool} {C:List Int} (hg : ∀ x y,(∀ z,z∈C→z≤x∨y≤z)→∀ d,x≤d→d<y→g d=g x) :
  ∀ (r:List Int) (a:Int),(a::r).Pairwise (fun a b=>a<b)→(∀ z,z∈C→z≤a∨z∈r)→∀ d,memB (jS g (a::r)) d=(decide (a≤d∧d<rB a r) && g d)
 | [],a,_,_,d=>by
  have:decide (a≤d∧d<rB a [])=false:=by grind [rB]
  rw [this];rfl
 | b::r,a,hp,hC,d=>by
  obtain ⟨h1,h2⟩:=kw.1 hp;have hab:=h1 b (fg ..);obtain ⟨hb2,h3⟩:=kw.1 h2;have hl:=(zY h2).1;have ih:=ET hg r b h2 (fun z hz=>by grind) d;have hc : ∀ d,a≤d→d<b→g d=g a:=hg a b fun z hz=>by grind
  have e0:memB (jS g (a::b::r)) d=((g a && decide (a≤d∧d<b)) || memB (jS g (b::r)) d):=by
   rw [ES];cases g a with
   | true=>rw [ec,Bool.true_and]
   | false=>simp_all
  rw [e0,ih,show rB a (b::r)=rB b r from rfl];grind
def iW (A:List PSpan):List Int:=bz (dD (pZ A))
theorem KE (A:List PSpan):(iW A).Pairwise (fun a b=>a<b)∧∀ z,z∈iW A↔z∈pZ A:=by
 obtain ⟨h1,h2⟩:=IB (CM (pZ A));exact ⟨h1,fun z=>(h2 z).trans (kn (pZ A)).mem_iff⟩
theorem yR {A l:List PSpan} (hl : ∀ s,s∈l→s∈A) {x y:Int} (hz : ∀ z,z∈iW A→z≤x∨y≤z) {d:Int} (h1:x≤d) (h2:d<y):memB l d=memB l x:=by
 have key : ∀ s,s∈l→((s.from_≤d∧d<s.to)↔(s.from_≤x∧x<s.to)):=fun s hs=>by
  obtain ⟨k1,k2⟩:=Gc (hl s hs);grind [KE]
 rw [CC,jz,jz];grind
theorem Lz {op:Bool→Bool→Bool} (h0:op false false=false) (A B:List PSpan) (d:Int):memB (jS (fun d=>op (memB A d) (memB B d)) (iW (A++B))) d=op (memB A d) (memB B d):=by
 obtain ⟨h1,h2⟩:=KE (A++B);have out : ∀ (z1 z2:Int),(∀ z,z∈iW (A++B)→z1≤z∧z≤z2)→¬ (z1≤d∧d<z2)→op (memB A d) (memB B d)=false:=fun z1 z2 hz hd=>by
  have no : ∀ l:List PSpan,(∀ s,s∈l→s∈A++B)→memB l d=false:=fun l hl=>by
   cases q:memB l d with
   | false=>rfl
   | true=>
    obtain ⟨s,k1,k2,k3⟩:=jz.1 q;obtain ⟨k4,k5⟩:=Gc (hl s k1);grind
  simp_all
 cases hC:iW (A++B) with
 | nil=>
  rw [jS,mF];exact (out (d+1) d (fun z hz=>by grind) (by omega)).symm
 | cons a r=>
  rw [hC] at h1;have hl:=zY h1;have hp:=(kw.1 h1).1;rw [ET (C:=iW (A++B)) (fun x y hz d h3 h4=>by
   show op (memB A d) (memB B d)=op (memB A x) (memB B x)
   rw [yR (A:=A++B) (fun s hs=>Ez _ hs) hz h3 h4,yR (A:=A++B) (fun s hs=>xF _ hs) hz h3 h4]) r a h1 (fun z hz=>by
   grind) d]
  by_cases q:a≤d∧d<rB a r;all_goals grind
theorem zT (A:List PSpan):(iW A).length≤2 * A.length:=by
 have:=wm (dD (pZ A));have h2:=(kn (pZ A)).length_eq;grind [kW,iW]
theorem Bo {g:Int→Bool} {C:List Int} {x:Nat} (h1:1≤x) (h2:x<C.length):jS g (C.drop (x - 1))=match g (gD C (x - 1)) with | true=>⟨gD C (x - 1),gD C x⟩::jS g (C.drop (x+1 - 1)) | false=>jS g (C.drop (x+1 - 1)):=by grind [Do,ES]
theorem kM {g:Int→Bool} {C:List Int} {x:Nat} (h1:1≤x) (h2:C.length≤x):jS g (C.drop (x - 1)) = []:=by
 have:(C.drop (x - 1)).length≤1:=by simp_all
 match C.drop (x - 1),this with
 | [],_=>rfl
 | [_],_=>rfl
 | _::_::_,h=>simp_all
noncomputable def rG (op:Bool→Bool→Bool) (a b:List PSpan):List PSpan:=nf fun d=>op (memB a d) (memB b d)
theorem mq (l:List PSpan):NrmS (iR l):=yL _
theorem BL (l:List PSpan) (d:Int):memB (iR l) d=(Nc d && memB l d):=HS _ d
theorem M8 {op:Bool→Bool→Bool} (h0:op false false=false) {a b A B:List PSpan} (hA:iR a=A) (hB:iR b=B):iR (jS (fun d=>op (iw A d) (iw B d)) (iW (A++B)))=rG op a b:=by
 have nA:NrmS A:=hA ▸ mq a;have nB:NrmS B:=hB ▸ mq b;have e:(fun d=>op (iw A d) (iw B d))=fun d=>op (memB A d) (memB B d):=funext fun d=>by grind [Sl]
 rw [e];unfold iR rG;refine O5 fun d hd=>?_
 rw [Lz h0,← hA,← hB,BL,BL,hd,Bool.true_and,Bool.true_and]
end Go.Ev
namespace Go.Ev
open Go
section
variable {H : Type} {enc : TypeId × Value → H} {P : Program} {w : World} {base : Nat} {spare : Nat → Bool} {held : Bool}
inductive VL (M:dl):List AV→List Value→Prop
 | nil:VL M [] []
 | cons {x:AV} {v:Value} {xs:List AV} {vs:List Value} (h:VRel (fun _=>none) M x v) (t:VL M xs vs):VL M (x::xs) (v::vs)
theorem VL.append {M:dl} {xs ys:List AV} {a b:List Value} (h:VL M xs a) (k:VL M ys b):VL M (xs++ys) (a++b):=by
 induction h with
 | nil=>grind
 | cons h _ ih=>exact .cons h ih
theorem VL.at_ {M:dl} {xs:List AV} {a:List Value} (h:VL M xs a) : ∀ (j:Nat) (y:AV),xs[j]? = some y→∃ v,a[j]? = some v∧VRel (fun _=>none) M y v:=by
 induction h with
 | nil=>simp_all
 | cons h _ ih=>grind
theorem VL.one {M:dl} {x:AV} {cs:List Value} (h:VL M [x] cs) : ∃ v,cs = [v]∧VRel (fun _=>none) M x v:=by
 cases h with
 | cons h t=>cases t;simp_all
def Wt (P:Program) (t:TypeId) (d:DataW H):Prop:=∀ m,m∈d.weights P t→m≤reachBytes
theorem pM {e:TypeId} {d:DataW H} {m:Nat} (hm:m∈d.weights P e) : ∀ {l:List (DataW H)},d∈l→m∈DataW.weightsAll P e l
 | [],h=>by grind
 | a::r,h=>by
  unfold DataW.weightsAll;rcases eP.1 h with rfl | h
  ·simp_all
  ·exact xF _ (pM hm h)
theorem lp {t:TypeId} {d:DataW H} {m:Nat} (hm:m∈d.weights P t) : ∀ {ts:List TypeId} {l:List (DataW H)} (i:Nat),ts[i]? = some t→l[i]? = some d→m∈DataW.weightsEach P ts l
 | [],_,i,h,_=>by simp_all
 | _::_, [],i,_,h=>by simp_all
 | u::ts,a::r,i,h1,h2=>by
  unfold DataW.weightsEach;cases i with
  | zero=>simp_all
  | succ i=>exact xF _ (lp hm i (by simp_all) (by simp_all))
def DB (P:Program):List Field→Nat→Nat→Bool
 | [],off,n=>Nat.beq off n
 | f::r,off,n=>Nat.beq f.offset off && DB P r (off+P.cellsOf f.type) n
def VF (M:dl) (P:Program) (cs:List Value):List Field→List (List AV)→Prop
 | [], []=>True
 | f::fs,xs::xss=>VL M xs ((cs.drop f.offset).take (P.cellsOf f.type))∧VF M P cs fs xss
 | _,_=>False
theorem VF.vl {M:dl} {cs:List Value} : ∀ {fs:List Field} {xss:List (List AV)} {off:Nat},DB P fs off cs.length=true→VF M P cs fs xss→VL M xss.flatten (cs.drop off)
 | [], [],off,h,_=>by
  have:=px h;rw [this,List.drop_length];exact .nil
 | [],_::_,_,_,h=>h.elim
 | _::_, [],_,_,h=>h.elim
 | f::fs,xs::xss,off,h,k=>by
  unfold DB at h;rw [bJ] at h;have ho:=px h.1;have h1:=k.1;rw [ho] at h1;have h2:=VF.vl h.2 k.2;have e:cs.drop off=(cs.drop off).take (P.cellsOf f.type)++cs.drop (off+P.cellsOf f.type):=by grind [List.drop_drop,List.take_append_drop]
  rw [List.flatten_cons,e];exact h1.append h2
def TF (enc:TypeId × Value→H) (P:Program) (w:World) (base:Nat) (spare:Nat→Bool) (held:Bool) (n:Nat) (cs:List Value):List Field→Prop
 | []=>True
 | f::fs=>(∃ d p,DataW.trod enc P w base spare held n f.type ((cs.drop f.offset).take (P.cellsOf f.type))=some (d,p)∧Wt P f.type d)∧TF enc P w base spare held n cs fs
theorem Ui {n:Nat} {cs:List Value} : ∀ (fs:List Field),(∀ (i:Nat) (f:Field),fs[i]? = some f→∃ d p,DataW.trod enc P w base spare held n f.type ((cs.drop f.offset).take (P.cellsOf f.type))=some (d,p)∧Wt P f.type d)→TF enc P w base spare held n cs fs
 | [],_=>trivial
 | f::fs,h=>⟨h 0 f rfl,Ui fs fun i g hg=>h (i+1) g (by simp_all)⟩
theorem iG {t:TypeId} {fs:Array Field} {fuel:Nat} {cs:List Value} {d:DataW H} {p:List MemPlace} (hu:P.underlying t=some (.struct fs)) (hc:DB P fs.toList 0 (P.cellsOf t)=true)
  (h:DataW.trod enc P w base spare held fuel t cs=some (d,p)) (hw:Wt P t d) :
  ∃ n,fuel=n+1∧TF enc P w base spare held n cs fs.toList∧∀ xss,VF (cq w) P cs fs.toList xss→VL (cq w) xss.flatten cs:=by
 obtain ⟨xs,n,rfl,h1,h2,h3,h4⟩:=DataW.trod_struct hu h;simp only [sG] at h1;obtain ⟨rfl,_⟩:=h1;refine ⟨n,rfl,Ui _ fun i f hf=>?_,fun xss hx=>?_⟩
 ·have hf':fs[i]? = some f:=by simp_all
  have hi:i<xs.length:=by grind
  have e:=h4 i f hf';rw [lm hi] at e;refine ⟨xs[i].1,xs[i].2,e,fun m hm=>hw m ?_⟩;unfold DataW.weights;rw [hu];exact lp hm i (by simp_all) (by grind)
 ·have:=VF.vl (off:=0) (by simp_all) hx;simp_all
theorem gc {t:TypeId} {fuel:Nat} {cs:List Value} {d:DataW H} {p:List MemPlace} (hu:P.underlying t=some (.int .i64)) (h:DataW.trod enc P w base spare held fuel t cs=some (d,p)) : ∃ x,VL (cq w) [.int .i64 x] cs:=by
 obtain ⟨x,rfl,_⟩:=DataW.trod_int hu h;exact ⟨x, .cons (.int _ _) .nil⟩
theorem ni {t:TypeId} {fuel:Nat} {cs:List Value} {d:DataW H} {p:List MemPlace} (hu:P.underlying t=some .string) (h:DataW.trod enc P w base spare held fuel t cs=some (d,p)) : ∃ s,VL (cq w) [.str s] cs:=by
 obtain ⟨⟨⟨s⟩⟩,rfl,_⟩:=DataW.trod_string hu h;exact ⟨s, .cons (.str _) .nil⟩
theorem JP {α:Type} {Q:Nat→α→Prop} : ∀ (n:Nat),(∀ i,i<n→∃ x,Q i x)→∃ l:List α,l.length=n∧∀ i x,l[i]? = some x→Q i x
 | 0,_=>⟨[],rfl,fun i x h=>by simp_all⟩
 | n+1,h=>by
  obtain ⟨l,h1,h2⟩:=JP n fun i hi=>h i (by omega)
  obtain ⟨y,hy⟩:=h n (by omega);refine ⟨l++ [y],by simp_all,fun i x hx=>?_⟩;grind
theorem Xu {x:AV} (h:x.cells.all cG=true):Sc x:=fun y hy=>nW.1 h y hy
theorem Hm {α:Type} (el:α→AV) (fit:α→Prop) {t e:TypeId} {fuel:Nat} {cs:List Value} {d:DataW H} {p:List MemPlace} (hu:P.underlying t=some (.slice e)) (hsz:Nat.blt 0 (P.cellsOf e)=true) (hby:Nat.blt 0 (P.bytesOf e)=true)
  (hel : ∀ x,(el x).cells.length=P.cellsOf e) (hsc : ∀ x,(el x).cells.all cG=true) (htop : ∀ x,(el x).top=0)
  (hrec : ∀ m,m<fuel→∀ cs d p,DataW.trod enc P w base spare held m e cs=some (d,p)→Wt P e d→∃ x,fit x∧VL (cq w) (el x).cells cs)
  (h:DataW.trod enc P w base spare held fuel t cs=some (d,p)) (hw:Wt P t d) :
  ∃ l:List α,l.length<2 ^ 47∧(∀ x,x∈l→fit x)∧VL (cq w) [.ls (l.map el)] cs:=by
 rw [dh] at hsz hby;simp only [decide_eq_true_eq] at hsz hby;rcases DataW.trod_slice hu h with ⟨rfl,_⟩ | ⟨a,len,cap,elems,rest,n,rfl,rfl,h1,h2,h3,h4,h5,h6,_,_⟩
 ·exact ⟨[],Nat.two_pow_pos 47,fun x h=>absurd h (List.not_mem_nil), .cons .lsn .nil⟩
 ·simp only [sG] at h1;obtain ⟨rfl,_⟩:=h1;have hwl:len<2 ^ 47:=by
   have:=hw ((elems.length+rest.length) * P.bytesOf e) (by grind [DataW.weights]);have h7:elems.length≤(elems.length+rest.length) * P.bytesOf e:=bH (Nat.le_add_right _ _) (Nat.le_mul_of_pos_right _ hby);have:elems.length≤reachBytes:=bH h7 this;rw [h5] at this;exact pz this (by decide)
  have el0 : ∀ i,i<len→∃ x,fit x∧∃ cs:List Value,cs.length=P.cellsOf e∧(∀ j,j<P.cellsOf e→w.cell? ((a.add (i * P.cellsOf e)).add j)=cs[j]?)∧VL (cq w) (el x).cells cs:=by
   intro i hi;have k5:=h6 i hi;have hi':i<elems.length:=by omega
   rw [lm hi'] at k5;simp only [Option.bind_eq_some_iff] at k5;obtain ⟨cs,c1,c2⟩:=k5;obtain ⟨z1,z2⟩:=Ci c1;obtain ⟨x,f1,f2⟩:=hrec n (by omega) cs elems[i].1 elems[i].2 c2 (fun m hm=>hw m (by
    unfold DataW.weights;rw [hu];exact fK _ (Ez _ (pM hm (jK.2 ⟨elems[i],CB hi',rfl⟩)))))
   grind
  obtain ⟨l,q1,q2⟩:=JP len el0;refine ⟨l,by omega,fun x hx=>?_, .cons ?_ .nil⟩
  ·obtain ⟨i,hi⟩:=Eb.1 hx;grind
  ·have q1':(l.map el).length=len:=by simp_all
   generalize hys:l.map el=ys at *;have q3 : ∀ i y,ys[i]? = some y→∃ cs:List Value,cs.length=P.cellsOf e∧(∀ j,j<P.cellsOf e→w.cell? ((a.add (i * P.cellsOf e)).add j)=cs[j]?)∧VL (cq w) y.cells cs:=by grind
   have q4 : ∀ y,y∈ys→y.cells.length=P.cellsOf e∧Sc y:=by grind [Xu]
   have q5:aq ys=0:=by grind [aW]
   have addadd : ∀ i j:Nat,a.spot=none→(a.add i).add j=⟨a.block,a.off+i+j,none⟩:=by
    intro i j hs;obtain ⟨blk,off,spot⟩:=a;grind [Addr.add]
   have spot:ys≠ []→a.spot=none:=by
    intro hne;obtain ⟨x,hx⟩ : ∃ x,ys[0]? = some x:=by
     cases ys with
     | nil=>simp_all
     | cons x r=>exact ⟨x,rfl⟩
    grind [rK,Addr.add]
   have cell : ∀ (i j:Nat) (x:AV),ys[i]? = some x→j<P.cellsOf e→∃ c v,cq w a.block=some c∧c[a.off+i * P.cellsOf e+j]? = some v∧∀ y,x.cells[j]? = some y→VRel (fun _=>none) (cq w) y v:=by
    intro i j x hx hj;obtain ⟨cs,c1,c2,c3⟩:=q3 i x hx;have:=c2 j hj;rw [lm (by omega),addadd _ _ (spot (by grind))] at this;obtain ⟨_,c,m1,m2⟩:=rK this;refine ⟨c,_,m1,m2,fun y hy=>?_⟩;obtain ⟨v,g1,g2⟩:=c3.at_ j y hy;simp_all
   refine .lsp ?_ q5;by_cases hne:ys = []
   ·subst hne;simp at q1';subst q1';exact .ps (sz:=P.cellsOf e) (c:=#[]) (by simp) (fun h=>by grind) (fun h=>absurd rfl h) (fun x h=>by simp_all) (fun i x j y h=>by simp_all)
   ·have hlen:0<ys.length:=pG.2 hne;obtain ⟨x0,hx0⟩ : ∃ x,ys[ys.length - 1]? = some x:=⟨ys[ys.length - 1],by simp⟩
    obtain ⟨c,v0,m1,m2,_⟩:=cell (ys.length - 1) (P.cellsOf e - 1) x0 hx0 (by omega);have hc:=(vp.1 m2).1;have hfit:a.off+ys.length * P.cellsOf e≤c.size:=by
     have h1:(ys.length - 1) * P.cellsOf e+P.cellsOf e=ys.length * P.cellsOf e:=by rw [← pL];grind
     omega
    have:=VRel.ps (pl:=fun _=>none) (M:=cq w) (xs:=ys) (tight:=false) (a:=a) (cap:=cap) (sz:=P.cellsOf e) (c:=c) (by omega) (fun h=>by grind) (fun _=>⟨spot hne,m1,hfit,hsz⟩) q4
     (fun i x j y hx hy=>by
      obtain ⟨r1,_⟩:=q4 x (bm hx);have hj:j<P.cellsOf e:=by grind
      obtain ⟨c',v,n1,n2,n3⟩:=cell i j x hx hj;simp_all)
    simp_all
theorem kS {α:Type} (el:α→AV) (fit:α→Prop) {t e:TypeId} {fuel:Nat} {cs:List Value} {d:DataW H} {p:List MemPlace} (hu:P.underlying t=some (.slice e)) (hsz:Nat.blt 0 (P.cellsOf e)=true) (hby:Nat.blt 0 (P.bytesOf e)=true)
  (hel : ∀ x,(el x).cells.length=P.cellsOf e) (hsc : ∀ x,(el x).cells.all cG=true) (htop : ∀ x,(el x).top=0)
  (hrec : ∀ m,m<fuel→∀ cs d p,DataW.trod enc P w base spare held m e cs=some (d,p)→Wt P e d→∃ x,fit x∧VL (cq w) (el x).cells cs)
  (h:DataW.trod enc P w base spare held fuel t cs=some (d,p)) (hw:Wt P t d) :
  ∃ l:List α,l.length<2 ^ 60∧(∀ x,x∈l→fit x)∧VL (cq w) [.ls (l.map el)] cs:=by
 have ⟨l,h1,h2⟩:=Hm el fit hu hsz hby hel hsc htop hrec h hw;grind
end
end Go.Ev
namespace Go.Ev
open Go
structure PPair where
 a:Int
 b:Int
deriving Inhabited,DecidableEq
structure PRef where
 act:Int
 item:Int
deriving Inhabited,DecidableEq
def jL (u:TUnit):List PWord:=u.head++u.words
mutual
def eX:TUnit→List PWord
 | ⟨_,_,_,_,_,h,w,ks⟩=>(h++w)++fY ks
def fY:List TUnit→List PWord
 | []=> []
 | k::r=>eX k++fY r
end
theorem xA (u:TUnit):eX u=jL u++fY u.kids:=by obtain ⟨a,b,c,d,e,h,w,ks⟩:=u;rw [eX];rfl
theorem ma:fY [] = []:=by rw [fY]
theorem dU (k:TUnit) (r:List TUnit):fY (k::r)=eX k++fY r:=by rw [fY]
theorem oZ {k:Int} : ∀ {m:List (Int × Int)},gg k m=none→¬ k∈m.map (·.1)
 | [],_=>by simp
 | (i,x)::r,h=>by
  simp only [gg] at h;cases e:ab k i with
  | true=>grind
  | false=>
   rw [e] at h;have:=oZ h;grind [tP]
section
variable {u w' : TUnit} {ws : List PWord} {w : PWord} {r : List PWord} {ks : List TUnit} {m x : List (Int × Int)} {c B : Int}
end
theorem VRel.ls0 {pl:Pl} {M:dl} {x:Value} (h:VRel pl M (.ls []) x):VRel pl M .nils x∨VRel pl M (.ps [] false) x:=by
 cases h with
 | lsn=>exact .inl .nils
 | lsp h _=>simp_all
theorem EW {P:Program} {G:eh} {f:FuncId} {a b c:List AV} {h:AHeap} {Ψ:AV→AHeap→Prop} (hs : ∀ pl M vs,VRels pl M c vs→VRels pl M a vs∨VRels pl M b vs) (h1:aF P G f a h Ψ) (h2:aF P G f b h Ψ):aF P G f c h Ψ:=fun pl M w vs hg hr hv=>(hs pl M vs hv).elim (h1 pl M w vs hg hr) (h2 pl M w vs hg hr)
theorem VRels.first {pl:Pl} {M:dl} {x y z:AV} {r:List AV} {vs:Array Value} (h:VRels pl M (z::r) vs) (hs : ∀ v,VRel pl M z v→VRel pl M x v∨VRel pl M y v):VRels pl M (x::r) vs∨VRels pl M (y::r) vs:=by
 obtain ⟨h1,h2⟩:=h;have lift : ∀ u,VRel pl M u (vs.getD 0 undef)→VRels pl M (u::r) vs:=fun u hu=>⟨h1,fun j y hj=>by
  cases j with
  | zero=>grind
  | succ j=>simp_all⟩
 exact (hs _ (h2 0 z rfl)).imp (lift x) (lift y)
end Go.Ev
namespace Go.Ev
open Go
theorem ao {n b m:Nat} (h1:n≤m) (h2:m≤2 ^ 40) (h3:m * b≤2 ^ 40):small n b=true:=by
 unfold small;have h4:n * b≤m * b:=ef b h1;grind [Nat.ble_eq_true_of_le]
def Wp (d:Int):List Int→List Int
 | []=> [d]
 | x::r=>bif aB x d then x::Wp d r else bif ab x d then x::r else d::x::r
def eD (ws:List PWord) (l:List Int):List Int:=ws.foldl (fun l w=>Wp w.act l) l
end Go.Ev
namespace Go.Ev
open Go
def RS {α:Type} : Result α→World
 | .ok _ w=>w
 | .halt _ w=>w
def gW:GStep→World
 | .go _ w _=>w
 | .comm _ _ _ _ w _=>w
 | .spawn _ _ w _=>w
 | .count _ w _=>w
 | .timer _ _ w _=>w
 | .alone _ _ w _=>w
 | .newcoro _ _ _ w _=>w
 | .coroswitch _ _ _ w _=>w
 | .collect _ w _=>w
 | .watch _ w _=>w
 | .ended _ w _=>w
theorem lK (es:Array Event) (g:GStep):gW (GStep.after es g)=gW g:=by cases g <;> rfl
theorem IH {α:Type} : ∀ (q:Ask α) (w:World),w.drawn≤(w.ask q).2.drawn
 | .done a,w=>ah _
 | .ask what range k,w=>by
  rw [World.ask];split
  ·exact IH (k 0) w
  ·exact bH (nM _) (IH _ { w with drawn:=w.drawn+1 })
theorem N1 (w:World) (c:Sys):w.drawn≤(w.sys c).2.drawn:=by
 unfold World.sys;have h:=IH (Kernel.perform c w.os) w;grind
theorem wI {p:Program} {w w':World} {at_:Addr} {u:TypeId} {k:Addr} {v:Value} {b:Bool} {l:List Addr} (h:w.viewStore p at_ u k v b = .ok (w',l)):w'.drawn=w.drawn:=by
 unfold World.viewStore at h;simp only [bind,Except.bind,pure,Except.pure] at h
 repeat' split at h
 all_goals first | cases h;done | (injection h with h;injection h with h1 h2;rw [← h1])
theorem zu {p:Program} {w w':World} {a:Addr} {v:Value} {b:Bool} {l:List Addr} (h:w.farStore p a v b = .ok (w',l)):w'.drawn=w.drawn:=by
 unfold World.farStore at h
 repeat' split at h
 all_goals first | cases h;done | grind [wI]
theorem De (w:World) (a:Addr) (n:Nat):(w.freeze a n).drawn=w.drawn:=by unfold World.freeze;grind
theorem Oq (p:Program) {α:Type} (s:Sem α) : ∀ (w:World),w.drawn≤(RS (s.run p w)).drawn:=by
 induction s with
 | pure a=>exact fun w=>ah _
 | load m a k ih=>
  intro w;simp only [Sem.run]
  repeat' split
  all_goals first | exact ih _ _ | exact ah _
 | store m a v k ih=>
  intro w;cases v
  all_goals simp only [Sem.run]
  all_goals first
   | exact ah _
   | ((repeat' split);all_goals first | exact ah _ | exact ih (w.setCell _ _) | (rename_i e;refine bH ?_ (ih _);rw [zu e];exact ah _))
 | new o k ih=>grind [Sem.run]
 | shape r k ih=>grind [Sem.run]
 | freeze a n k ih=>intro w;simp only [Sem.run];refine bH ?_ (ih _);simp_all [De]
 | frozen a k ih=>grind [Sem.run]
 | getObj r k ih=>
  intro w;simp only [Sem.run]
  repeat' split
  all_goals first | exact ih _ _ | exact ah _
 | setObj r o k ih=>
  intro w;simp only [Sem.run]
  repeat' split
  all_goals first | exact ih { w with heap:=w.heap.setIfInBounds r o } | exact ah _
 | choose q k ih=>
  intro w;simp only [Sem.run];grind
 | sys c k ih=>grind [Sem.run,N1]
 | program k ih=>grind [Sem.run]
 | mark m k ih=>grind [Sem.run]
 | halt h=>exact fun w=>ah _
theorem cA {p:Program} {α:Type} {s:Sem α} {w:World} {r:Result α} (h:s.run p w=r):w.drawn≤(RS r).drawn:=h ▸ Oq p s w
theorem RO {p:Program} {α:Type} {s:Sem α} {w:World} {es es':Array Event} {r:Result α} (h:s.runT p w es=(r,es')):w.drawn≤(RS r).drawn:=by
 have:=Sem.runT_fst p s w es;rw [h] at this;exact cA this.symm
theorem Ip (w:World) (fd:Nat) (text:ByteArray) (o:Outcome):w.drawn≤(gW (endWith w fd text o)).drawn:=by
 unfold endWith;simp only [];have h:=N1 w (.write fd text);split;all_goals (rename_i e;rw [e] at h)
 all_goals repeat' split
 all_goals exact h
theorem wc (fr:Frame) (m:String) (w:World):w.drawn≤(gW (endThrow fr m w)).drawn:=ah _
theorem qm (p:Program) (fr:Frame) (v:Value) (w:World):w.drawn≤(gW (endPrinting p fr v w)).drawn:=by
 unfold endPrinting;simp only []
 repeat' split
 all_goals exact ah _
theorem we (p:Program) (fr:Frame) (cs:List Frame) (d:Option Dying) (m:String) (w:World):w.drawn≤(gW (endFatal p fr cs d m w)).drawn:=by
 unfold endFatal;simp only [];split;all_goals (rename_i e;exact cA e)
theorem Hx (p:Program) (fr:Frame) (d:Dying) (f:Fatal) (w:World):w.drawn≤(gW (writeOn p fr d f w)).drawn:=by
 unfold writeOn;split
 ·exact ah _
 ·simp only [];split;all_goals (rename_i e;exact RO e)
theorem VP (p:Program) (fr:Frame) (d:Dying) (w:World):w.drawn≤(gW (die p fr d w)).drawn:=by
 unfold die;split
 ·grind [Hx]
 ·split
  ·split
   ·exact ah _
   grind [Ip]
  ·simp only [];split
   ·exact ah _
   ·split;all_goals (rename_i e;exact cA e)
   ·rw [lK];split;all_goals first | (rename_i e;exact cA ((Sem.runT_fst ..).symm.trans e)) | skip
    ·rename_i e;exact bH (cA ((Sem.runT_fst ..).symm.trans e)) (qm ..)
    ·exact ah _
   ·exact ah _
theorem qo (p:Program) (main:Bool) (fr:Frame) (cs:List Frame) (d:Option Dying) (v:Value) (w:World):w.drawn≤(gW (doReturn p main fr cs d v w)).drawn:=by
 unfold doReturn
 repeat' split
 all_goals exact ah _
theorem sf {c:Prop} [Decidable c] {a b:GStep} {n:Nat} (h1:n≤(gW a).drawn) (h2:n≤(gW b).drawn):n≤(gW (if c then a else b)).drawn:=by grind
theorem xQ (p:Program) (fr:Frame) (cs:List Frame) (dy:Option Dying) (d:Deferred) (w:World):w.drawn≤(gW (callDeferred p fr cs dy d w)).drawn:=by
 unfold callDeferred;refine sf ?_ ?_
 ·exact ah _
 ·simp only [];rw [lK];split;all_goals (rename_i e;have h:=cA ((Sem.runT_fst ..).symm.trans e))
  all_goals first | exact h | exact bH h (we ..) | ((repeat' split) <;> exact h)
theorem K9 (p:Program) (main:Bool) (fr:Frame) (cs:List Frame) (dy:Option Dying) (w:World):w.drawn≤(gW (unwind p main fr cs dy w)).drawn:=by
 unfold unwind;split
 ·simp only [];rw [lK];split;all_goals (rename_i e;exact cA ((Sem.runT_fst ..).symm.trans e))
 ·grind [xQ]
 ·split
  ·exact ah _
  ·split
   ·exact ah _
   ·split
    ·exact ah _
    ·split
     ·split
      ·exact ah _
      ·split;all_goals (rename_i e;exact cA e)
     ·split
      ·grind [qm]
      ·exact ah _
  ·split
   ·grind [qo]
   ·simp only [];rw [lK];split;all_goals (rename_i e;have h:=cA ((Sem.runT_fst ..).symm.trans e))
    all_goals first | exact h | exact bH h (qo ..)
theorem Qb (p:Program) (fr:Frame) (cs:List Frame) (dy:Option Dying) (g:Nat) (w:World):w.drawn≤(gW (early p fr cs dy g w)).drawn:=by
 unfold early;simp only []
 repeat' split
 all_goals first | exact ah _ | (rename_i e;exact cA e) | (rename_i e _;exact cA e) | (rename_i e _ _;exact cA e) | (rename_i e _ _ _ _;exact cA e)
theorem ub (p:Program) (listen:Bool) (fr:Frame) (cs:List Frame) (dy:Option Dying) (s:Sem Next) (w:World):w.drawn≤(gW (stepG.apply p listen fr cs dy s w)).drawn:=by
 unfold stepG.apply;simp only [];rw [lK];have h0:w.drawn≤(RS (if listen=true then Sem.runT p s w #[] else (Sem.run p s w,#[])).fst).drawn:=by
  cases listen
  ·grind [Oq]
  ·exact cA (Sem.runT_fst ..).symm
 generalize (if listen=true then Sem.runT p s w #[] else (Sem.run p s w,#[])).fst=r at h0 ⊢;split;all_goals first | exact h0 | exact bH h0 (we ..) | exact bH h0 (Qb ..) | exact bH h0 (wc ..) | skip
 all_goals repeat' split
 all_goals first | exact h0 | exact bH h0 (wc ..) | skip
theorem SY (p:Program) (listen:Bool) (fr:Frame) (cs:List Frame) (dy:Option Dying) (w:World):w.drawn≤(gW (stepG.oper p listen fr cs dy w)).drawn:=by
 unfold stepG.oper;split
 ·exact ah _
 ·split;all_goals exact ub ..
theorem Ty (p:Program) (main listen:Bool) (fr:Frame) (cs:List Frame) (dy:Option Dying) (w:World):w.drawn≤(gW (stepG.exec p main listen fr cs dy w)).drawn:=by
 have lv : ∀ (l : Nat) (jump : Option Code), w.drawn ≤ (gW (GStep.after (seen p fr.fn ((Instr.endRound l jump).runT p w #[]).snd) (match ((Instr.endRound l jump).runT p w #[]).fst with | .ok v w => doReturn p main fr cs dy v w | .halt _ w => .ended (.stuck "range over a function: no such loop" (fr.pos p)) w))).drawn := by
  intro l jump;rw [lK];have h0:=cA (Sem.runT_fst p (Instr.endRound l jump) w #[]).symm;split;all_goals (rename_i e;rw [e] at h0)
  ·exact bH h0 (qo ..)
  ·exact h0
 unfold stepG.exec;simp only [];split;all_goals first | exact ah _ | exact ub .. | skip
 ·split
  ·exact sf (ah _) (ah _)
  grind
 ·split
  ·exact sf (ah _) (ah _)
  grind
 ·split <;> exact ah _
 ·rename_i id k _;cases exitTo id k with
  | none=>simp only [Option.elim];split;exact sf (ah _) (ah _);grind
  | some k'=>exact ah _
 ·rename_i id k _;cases gotoIn id k with
  | none=>simp only [Option.elim];split;exact sf (ah _) (ah _);grind
  | some k'=>exact ah _
 ·rw [lK];split
  ·rename_i e;exact bH (cA ((Sem.runT_fst ..).symm.trans e)) (ub ..)
  ·rename_i e;exact cA ((Sem.runT_fst ..).symm.trans e)
 ·rw [lK];split <;> rename_i e <;> exact cA ((Sem.runT_fst ..).symm.trans e)
 ·rename_i row _ _ _;cases Extern.next row with
  | none=>exact ah _
  | some e=>grind [ub]
 ·refine sf (ah _) ?_;split <;> rename_i e <;> exact cA e
 ·exact sf (SY ..) (ah _)
theorem N4 (p:Program) (main listen:Bool) (g:Goroutine) (w:World):w.drawn≤(gW (stepG p main g w listen)).drawn:=by
 unfold stepG;grind [VP,Ty,K9]
def sD (n:Nat):Stepped→Prop
 | .next m=>n≤m.world.drawn
 | .ended _ _=>True
theorem sD.trans {n k:Nat} {s:Stepped} (h:n≤k) (g:sD k s):sD n s:=by
 cases s with
 | next m=>exact bH h g
 | ended o w=>trivial
theorem Pc {c:Prop} [Decidable c] {a b:Stepped} {n:Nat} (h1:sD n a) (h2:sD n b):sD n (if c then a else b):=by grind
theorem JO (p:Program) (gs:Array Goroutine) (rest:Rest) (w:World):sD w.drawn (look p gs rest w):=by
 unfold look;simp only [];split
 ·refine Pc trivial ?_;split
  ·trivial
  ·split <;> rename_i e <;> first | exact cA e | trivial
 ·trivial
theorem wH {rest:Rest} {cases:Array CommCase} {w w':World} (h:waitingAt rest cases w=some w'):w'.drawn=w.drawn:=by
 unfold waitingAt at h
 repeat' split at h
 all_goals first | (cases h;done) | (cases h;rfl)
theorem Dv {c:Prop} [Decidable c] {a b:Stepped × Array MemOp} {n:Nat} (h1:sD n a.1) (h2:sD n b.1):sD n (if c then a else b).1:=by grind
theorem AX (p:Program) (rest:Rest) (gs:Array Goroutine) (i:Nat) (g:Goroutine) (cs:Array CommCase) (bl:Bool) (sh:CommShape) (w:World):sD w.drawn (communicate p rest gs i g cs bl sh w).1:=by
 unfold communicate;simp only [];refine Dv trivial (Dv (Dv ?_ (ah _)) ?_)
 ·split
  ·rename_i e;exact vo (wH e).symm
  ·trivial
 ·split
  ·trivial
  ·rename_i w1 e;have h:w.drawn≤w1.drawn:=cA e;clear e;split
   ·split
    ·rename_i e;exact bH h (cA e)
    ·trivial
   ·exact h
   ·exact h
   ·split
    ·exact h
    ·split
     ·rename_i e;exact bH h (cA e)
     ·trivial
   ·exact h
   ·exact h
   ·trivial
theorem OK (p:Program) (m:Machine) (k:Nat):sD m.world.drawn (serve p m k):=by
 unfold serve;split
 ·trivial
 ·exact ah _
 ·simp only [];split
  ·trivial
  ·exact ah _
theorem An {m m':Machine} {op:TimerOp} {v:Value} (h:timerOp m op = .ok (v,m')):m'.world.drawn=m.world.drawn:=by
 have rt : ∀ (m:Machine) (k:Nat) (t:Timer) (a b:Nat),(retime m k t a b).2.world.drawn=m.world.drawn:=by
  intro m k t a b;unfold retime drain;grind
 cases op with
 | new t=>
  simp only [timerOp] at h
  repeat' split at h
  all_goals first | (cases h;done) | (cases h;rfl)
 | stop var=>
  simp only [timerOp,timerOp.named] at h;grind
 | reset var a b=>
  simp only [timerOp,timerOp.named,timerOp.opened] at h;split at h
  ·rename_i e;have e2 : ∀ m2:Machine,(if waitedFor m var=true then match Kernel.withPoller m.world.os with | .ok os=>some { m with world:= { m.world with os } } | .error _=>none else some m)=some m2→m2.world.drawn=m.world.drawn:=by
    intro m2 e
    repeat' split at e
    all_goals first | (cases e;done) | (cases e;rfl)
   grind
  ·grind
 | deadline a b c d=>simp only [timerOp] at h;cases h;rfl
theorem RN (p:Program) (m:Machine) (i:Nat) (b:Bool):sD m.world.drawn (runT p m i b).1:=by
 unfold runT;simp only [];have h:=N4 p (i == 0) b (m.gs.swapAt! i { (default:Goroutine) with status:= .finished }).1 m.world;generalize stepG p (i == 0) (m.gs.swapAt! i { (default:Goroutine) with status:= .finished }).1 m.world b=s at h ⊢;cases s
 all_goals simp only []
 all_goals try exact h
 all_goals try trivial
 ·exact sD.trans h (AX ..)
 ·exact Pc trivial h
 ·split
  ·rename_i e;exact bH h (vo (An e).symm)
  ·split
   ·rename_i e;cases e;exact h
   ·trivial
  ·trivial
  ·trivial
 ·split
  ·exact h
  ·split
   ·rename_i e;cases e;exact h
   ·trivial
  ·trivial
 ·exact sD.trans h (JO ..)
def Na (n:Nat):Move→Prop
 | .goroutine m _=>n≤m.world.drawn
 | .machine s _=>sD n s
theorem Na.trans {n k:Nat} {s:Move} (h:n≤k) (g:Na k s):Na n s:=by
 cases s with
 | goroutine m i=>exact bH h g
 | machine s o=>exact sD.trans h g
theorem Az (p:Program) (m:Machine):Na m.world.drawn (askOn p m):=by
 have pick : ∀ (m:Machine) (rs:List Nat),Na m.world.drawn (match (choose (.sched rs.length)).run p m.world with
   | .halt _ w => .machine (.ended (.stuck "sched" "") w)
   | .ok k world=>
    if rs.length≤1 then .goroutine { m with world } (rs.getD k 0) else
    match (choose (.extern "sched.slice" 65536)).run p world with
    | .halt _ w => .machine (.ended (.stuck "sched.slice" "") w)
    | .ok n world=> .goroutine { m with world,rest:= { m.rest with slice:=if n=0 then none else some (rs.getD k 0,n) } } (rs.getD k 0)):=by
  intro m rs;split
  ·trivial
  ·rename_i w1 e;have h:m.world.drawn≤w1.drawn:=cA e;split
   ·exact h
   ·split
    ·trivial
    ·rename_i e;exact bH h (cA e)
 unfold askOn;simp only [];split
 ·trivial
 ·rename_i k w1 e;have h:m.world.drawn≤w1.drawn:=cA e;clear e;split
  ·exact sD.trans h (OK p { m with world:=w1 } _)
  ·split
   ·split
    ·exact h
    ·split
     ·exact h
     ·split <;> trivial
   ·split
    ·exact Na.trans h (pick { m with world:=w1 } _)
    ·split
     ·trivial
     ·rename_i w2 e;exact Na.trans (bH h (cA e)) (pick { m with world:=w2 } _)
     ·rename_i e;exact bH h (cA e)
     ·rename_i k2 w2 e;exact Na.trans (bH h (cA e)) (pick (Machine.advanceTo { m with world:=w2 } _) _)
theorem KP (p:Program) (m:Machine):Na m.world.drawn (ask p m):=by
 unfold ask;split
 ·split
  ·trivial
  ·rename_i w1 e;have h:m.world.drawn≤w1.drawn:=cA e;have h2:=JO p m.gs m.rest w1;split
   ·rename_i e2;rw [e2] at h2;exact Na.trans (bH h h2) (Az ..)
   ·exact sD.trans h h2
  ·rename_i w1 _ e;have h:m.world.drawn≤w1.drawn:=cA e;exact Na.trans h (Az p { m with world:=w1 })
 grind [Az]
theorem Sa (p:Program) (m:Machine):Na m.world.drawn (move p m):=by
 unfold move;split
 ·split
  ·exact ah _
  ·trivial
 ·split
  ·split
   ·exact ah _
   ·exact KP p { m with rest:= { m.rest with slice:=none } }
  grind [KP]
theorem RC (p:Program) (m:Machine):sD m.world.drawn (step p m):=by
 unfold step stepT;have h:=Sa p m;split
 ·rename_i e;rw [e] at h;exact sD.trans h (RN ..)
 ·rename_i e;rw [e] at h;exact h
theorem Jf (p:Program) : ∀ (n:Nat) (m m':Machine),runN p n m = .next m'→m.world.drawn≤m'.world.drawn
 | 0,m,m',h=>by cases h;omega
 | n+1,m,m',h=>by
  rw [runN] at h;have h1:=RC p m;split at h
  ·rename_i e;rw [e] at h1;exact bH h1 (Jf p n _ _ h)
  simp_all
theorem N3 {p:Program} {m m':Machine} (h:Steps p m m'):m.world.drawn≤m'.world.drawn:=by
 obtain ⟨n,h⟩:=h;exact Jf p n m m' h
theorem GR {p:Program} {f:FuncId} {args:Array Value} {w:World} {R:Ending→World→Prop} (h:Calls p f args w R):Calls p f args w fun e w'=>R e w'∧((∃ v,e = .returned v)→w.drawn≤w'.drawn):=by
 intro cs;obtain ⟨e,w',fr,h1,h2,h3,h4⟩:=h cs;refine ⟨e,w',fr,⟨h1,?_⟩,h2,h3,h4⟩
 rintro ⟨v,rfl⟩
 exact N3 (m:=lone _ cs w) (m':=lone fr cs w') h2
end Go.Ev
namespace Go.Ev
open Go Go.RowKit
section
variable {P : Program} {G : eh} {pl : Pl} {M : dl} {h : AHeap} {w w' : World} {f : FuncId} {args : List AV} {v : AV}
theorem cE.below (hr:cE pl M h w) (hb:Below w.heap.size w w'):cE pl M h w':=
 ⟨hr.dom,fun id p o h1 h2=>by rw [hb.block _ (hr.blk id p h1)];exact hr.obj id p o h1 h2,fun id p h1=>Ey (hr.blk id p h1) hb.size,hr.inj,
  fun b c h1=>by rw [hb.block _ (hr.memLt h1)];exact hr.imm b c h1,hr.sep⟩
theorem cP.below (hb:Below w.heap.size w w') (hd:w.drawn≤w'.drawn):cP h pl M w h pl M w':=⟨nX.refl _,fun _ _ h=>h,fun _ _ h=>h,hb.size,fun b h1 _=>hb.block b h1,fun id p h=> .inl ⟨p,h,rfl⟩,fun _ _ _ h=>h,fun _ _ h _=>h,fun _ _ h=> .inl h,hb.os,hb.tape,hb.output,hd⟩
theorem aO.below (hE : ∀ vs w,(callFunc f vs).run P w = .ok (.enter f vs) w)
  (hC : ∀ (pl:Pl) (M:dl) (w:World) (vs:Array Value) (h:AHeap),pq G pl M→cE pl M h w→VRels pl M args vs→∃ cv,VRel pl M v cv∧Calls P f vs w fun e w'=>e = .returned cv∧Below w.heap.size w w'):aO P G f args v:=by
 intro h pl M w vs hG hr hv;obtain ⟨cv,h1,h2⟩:=hC pl M w vs h hG hr hv;refine .inl ⟨hE _ _,Calls.mono (GR h2) fun e w' ⟨⟨he,hb⟩,hd⟩=>?_⟩;exact ⟨cv,v,h,he,⟨rfl,rfl⟩,pl,M,h1,hr.below hb,cP.below hb (hd ⟨_,he⟩),ah _⟩
theorem aO.calls (hGT:iD G) (hE : ∀ vs w,(callFunc f vs).run P w = .ok (.enter f vs) w) (hp:aO P G f args v) (hG:pq G pl M) (hr:cE pl M h w) {vs:Array Value} (hv:VRels (fun _=>none) M args vs) :
  Calls P f vs w fun e w'=>(∃ cv pl' M',e = .returned cv∧VRel pl' M' v cv)∧Below w.heap.size w w'∧w.drawn≤w'.drawn:=by
 have r0:cE (fun _=>none) M AHeap.none w:=⟨fun _ _ h=>(by grind),fun _ _ _ h _=>(by grind),fun _ _ h=>(by grind),fun _ _ _ _ h _ _=>(by grind),hr.imm,fun _ _ h=>(by grind)⟩
 rcases hp AHeap.none (fun _=>none) M w vs (hG.none hGT) r0 hv with ⟨_,h2⟩ | ⟨cv,w1,v1,h1,e1,_,_⟩
 ·refine Calls.mono h2 fun e w' ⟨cv,v1,h1,he,⟨e1,e2⟩,pl',M',g1,g2,g3,_⟩=>?_
  subst e1;exact ⟨⟨cv,pl',M',he,g1⟩,⟨g3.os,g3.tape,g3.out,g3.size,fun b hb=>g3.kept b hb fun id p h=>(by grind)⟩,g3.drawn⟩
 ·grind
end
end Go.Ev
namespace Go.Ev
open Go
def Ps (lo hi:Int) (c:UInt8):Bool:=ax (aB (.ofNat c.toNat) lo || aB hi (.ofNat c.toNat))
abbrev kK:UInt8→Bool:=Ps 48 57
abbrev V4:UInt8→Bool:=Ps 65 90
def eY (p:UInt8→Bool) (s:aP):Nat:=(s.takeWhile p).length
section
variable {p : UInt8 → Bool} {s : aP}
theorem Jg:eY p s≤s.length:=(List.takeWhile_prefix p).length_le
theorem Jh : ∀ {s:aP} {i:Nat},i<eY p s→p (gD s i)=true
 | [],i,h=>by simp_all [eY]
 | c::r,i,h=>by
  cases hc:p c with
  | false=>simp_all [eY]
  | true=>
   cases i with
   | zero=>exact hc
   | succ i=>exact Jh (s:=r) (by simp_all [eY])
theorem E4 : ∀ {s:aP},eY p s<s.length→p (gD s (eY p s))=false
 | [],h=>by simp_all
 | c::r,h=>by
  cases hc:p c with
  | false=>simp [eY,hc,gD]
  | true=>
   have h2:eY p r<r.length:=by simp_all [eY]
   have:=E4 (s:=r) h2;simp_all [eY,gD]
theorem uL : ∀ {s:aP},eY p s=s.length↔s.all p=true
 | []=>by simp [eY]
 | c::r=>by
  have ih:eY p r=r.length↔r.all p=true:=uL;cases hc:p c with
  | false=>simp [eY,hc]
  | true=>simp_all [eY]
end
theorem Ve {lo hi:Int} {c:UInt8} (h1:aB hi (.ofNat c.toNat)=true):Ps lo hi c=false:=by grind [Ps]
def j8 (s:aP):Bool:=ax (aB (.ofNat (s.take (eY kK s)).length) 1) && (ax (aB 4 (.ofNat (s.take (eY kK s)).length)) && (ax (ab (.ofNat (gD (s.take (eY kK s)) 0).toNat) 48) && (ax (aB 3 (.ofNat (s.drop (eY kK s)).length)) && (s.drop (eY kK s)).all V4)))
def ri (s:aP):Bool:=ax (aB (.ofNat s.length) 1) && (ax (aB 24 (.ofNat s.length)) && s.all (Ps 33 126))
def qW (l:List aP):Bool:=ax (aB 256 (.ofNat l.length)) && l.all ri
theorem Dx:({ data:=#[] } : ByteArray).data.toList=([]:List UInt8):=rfl
theorem Qv (s:aP):aB (.ofNat s.length) 1=dg s []:=by cases s <;> rfl
def dm {α:Type} (p:α→Bool):List α→Nat→Int
 | [],_=> -1
 | x::r,i=>bif p x then Int.ofNat i else dm p r (i+1)
theorem lJ {α:Type} (p:α→Bool) : ∀ (l:List α) (i:Nat),aB (dm p l i) 0=ax (l.any p)
 | [],_=>rfl
 | x::r,i=>by
  unfold dm;rw [List.any_cons];cases h:p x with
  | true=>rfl
  | false=>simp_all [lJ]
section
variable {α : Type} {p : α → Bool} {l x r : List α} {w : α} {j : Nat}
theorem oV (h1:l.drop j=x) (h2:x=w::r):l.length - (w::r).length=j∧l.length - r.length=j+1:=by grind
theorem mX (h1:l.drop j=x) (h2:x=w::r) (h3:dm p l 0=dm p (w::r) (l.length - (w::r).length)) (h4:p w=true):dm p l 0=Int.ofNat j:=by rw [h3,(oV h1 h2).1,dm,h4];rfl
theorem kQ (h1:l.drop j=x) (h2:x=w::r) (h3:dm p l 0=dm p (w::r) (l.length - (w::r).length)) (h4:p w=false):dm p l 0=dm p r (l.length - r.length):=by rw [h3,(oV h1 h2).1,(oV h1 h2).2,dm,h4];rfl
end
def m9 (s:PStep):Bool:=ab s.kind 0 && dg s.label []
def s5 (s:PStep):Bool:=aB 0 s.kind && (ax (aB 7 s.kind) && j8 s.label)
def NJ:List PStep→Bool
 | []=>true
 | s::r=>(m9 s || s5 s) && r.all s5
def kf (p:List PStep):Bool:=NJ p && ax (aB 9 (.ofNat p.length))
def G9 (p r:List PStep):Bool:=bif Nat.beq r.length p.length then NJ r else r.all s5
theorem NW {p:List PStep} : NJ p=G9 p p:=by simp_all [G9]
theorem T2 {p:List PStep} : G9 p []=true:=by unfold G9;cases Nat.beq ([]:List PStep).length p.length <;> rfl
theorem DS {p x r:List PStep} {w:PStep} {j:Nat} (h1:p.drop j=x) (h2:x=w::r) (h3:NJ p=G9 p (w::r)):NJ p=((bif ab (Int.ofNat j) 0 then (m9 w || s5 w) else s5 w) && G9 p r):=by
 obtain ⟨e1,e2⟩:=oV h1 h2;have e3:=congrArg List.length (h1.trans h2);simp only [xE,cN] at e1 e2 e3;have f1:Nat.beq r.length p.length=false:=by cases h:Nat.beq r.length p.length with | false=>rfl | true=>grind [Nat.eq_of_beq_eq_true]
 rw [h3];unfold G9;rw [f1];cases j with
 | zero=>
  have f2:Nat.beq (w::r).length p.length=true:=by simp_all
  rw [f2];rfl
 | succ j=>
  have f2:Nat.beq (w::r).length p.length=false:=by cases h:Nat.beq (w::r).length p.length with | false=>rfl | true=>simp_all
  rw [f2];rfl
def cR:Int→aP
 | 0=> [98,111,111,107]
 | 1=> [112,97,114,116]
 | 2=> [115,101,99,116,105,111,110]
 | 3=> [112,97,114,97,103,114,97,112,104]
 | 4=> [116,97,98,108,101]
 | 5=> [114,111,119]
 | 6=> [99,101,108,108]
 | 7=> [110,111,116,101]
 | _=> []
def Hd:Int→List Int
 | 0=> [1,2]
 | 1=> [2]
 | 2=> [3,4,7]
 | 3=> [3,4,7]
 | 4=> [5]
 | 5=> [6]
 | _=> []
def jZ (p k:Int):Bool:=(Hd p).any (ab k)
theorem H9 {k:Int} (h:k<0∨7<k):cR k = []:=by
 unfold cR;grind
theorem Hc {k:Int} (h:k<0∨7<k):Hd k = []:=by
 unfold Hd;grind
end Go.Ev
namespace Go.Ev
open Go Go.RowKit Go.Proofs
structure ClassOf (p:UInt8→Bool) (q:Nat→Bool):Prop where
 low : ∀ c:UInt8,c.toNat<128→q c.toNat=ax (p c)
 high : ∀ n,128≤n→q n=true
 none : ∀ c:UInt8,128≤c.toNat→p c=false
theorem TV {s:aP} {i:Nat} (h:i<s.length) (h2:i<ByteArray.size ⟨⟨s⟩⟩):(ByteArray.mk ⟨s⟩)[i]'h2=gD s i:=by
 simp [gD,List.getD,lm h];rfl
theorem tF {p:UInt8→Bool} {q:Nat→Bool} (hc:ClassOf p q) (s:aP) : ∀ (f pos:Nat),pos≤eY p s→s.length≤pos+f→Lib.idxFuncFrom q true ⟨⟨s⟩⟩ f pos=(bif Nat.beq (eY p s) s.length then -1 else Int.ofNat (eY p s))
 | f,pos,h1,h2=>by
  have hl:=Jg (p:=p) (s:=s);have hsz:ByteArray.size ⟨⟨s⟩⟩=s.length:=rfl;by_cases he:pos<s.length
  ·cases f with
   | zero=>omega
   | succ f=>
    unfold Lib.idxFuncFrom;rw [hsz,if_pos he];have hb:=TV he (by rw [hsz];exact he);by_cases hr:pos<eY p s
    ·have hp:=Jh hr;have ha:(gD s pos).toNat<128:=by
      rcases fh (gD s pos).toNat 128 with h | h
      ·exact h
      ·rw [hc.none _ h] at hp;cases hp
     rw [decode_ascii _ pos (by rw [hsz];exact he) (by rw [hb];exact ha),hb];rw [if_neg (by rw [hc.low _ ha,hp];decide)];exact tF hc s f (pos+1) hr (by omega)
    ·have e:eY p s=pos:=by omega
     have hp:=E4 (p:=p) (s:=s) (by omega);rw [e] at hp;have hq:q (Utf8.decode ⟨⟨s⟩⟩ pos).1=true:=by
      rcases fh (gD s pos).toNat 128 with h | h
      ·rw [decode_ascii _ pos (by rw [hsz];exact he) (by rw [hb];exact h),hb,hc.low _ h,hp];rfl
      ·exact hc.high _ (decode_high _ pos (by rw [hsz];exact he) (by rw [hb];exact h)).1
     rw [if_pos hq,e];have f1:Nat.beq pos s.length=false:=by cases h:Nat.beq pos s.length with | false=>rfl | true=>have:=px h;omega
     rw [f1];rfl
  ·have e:eY p s=s.length:=by omega
   rw [Lib.idxFuncFrom_end _ _ _ _ _ (by rw [hsz];exact he),e,pC];rfl
theorem wz {p:UInt8→Bool} {q:Nat→Bool} (hc:ClassOf p q) (s:aP):Lib.idxFunc q true ⟨⟨s⟩⟩=(bif Nat.beq (eY p s) s.length then -1 else Int.ofNat (eY p s)):=tF hc s _ 0 (bG _) (by show s.length≤0+s.length;omega)
section
variable {P : Program} {G : eh} {f g : FuncId}
theorem Bt {pl:Pl} {M:dl} {w:World} {h:AHeap} (hGT:iD G) (hg2 : ∀ args w,(callFunc g args).run P w = .ok (.enter g args) w) {q:Nat→Bool} {qI:Int→Bool} (hp : ∀ r:Int,aO P G g [.int .i32 r] (.bool (qI r))) (hq : ∀ n:Nat,qI (.ofNat n)=q n)
  (hG:pq G pl M) (hr:cE pl M h w):PredGrows P g #[] q w:=by
 intro W x _ hb;refine Calls.mono (aO.calls hGT hg2 (hp (.ofNat x)) hG (hr.below hb) (vs:=#[.int .i32 (.ofNat x)]) ⟨rfl,fun j y hj=>?_⟩) fun e w' ⟨⟨cv,pl',M',he,hv⟩,hb',_⟩=>?_
 ·cases j with
  | zero=>simp at hj;subst hj;exact .int _ _
  | succ j=>simp_all
 grind [cases VRel]
theorem za (hGT:iD G) (hE : ∀ vs w,(callFunc f vs).run P w = .ok (.enter f vs) w) (hg2 : ∀ args w,(callFunc g args).run P w = .ok (.enter g args) w) {q:Nat→Bool} {qI:Int→Bool}
  (hC : ∀ (s:ByteArray) (w:World),PredGrows P g #[] q w→Calls P f #[.string s, .func (.func g) #[] #[]] w fun e w'=>e = .returned (.int .i64 (Lib.idxFunc q true s))∧Below w.heap.size w w')
  (hp : ∀ r:Int,aO P G g [.int .i32 r] (.bool (qI r))) (hq : ∀ n:Nat,qI (.ofNat n)=q n) {p:UInt8→Bool} (hc:ClassOf p q) (s:aP) :
  aO P G f [.str s, .func (.func g) [] []] (.int .i64 (bif Nat.beq (eY p s) s.length then -1 else Int.ofNat (eY p s))):=by
 refine aO.below hE fun pl M w vs h hG hr hv=>?_
 obtain ⟨a,b,rfl,hv1,hv2⟩:=Ak hv;have e2:=yh hv2;subst e2;cases hv1
 rw [← wz hc s];exact ⟨_, .int _ _,hC ⟨⟨s⟩⟩ w (Bt hGT hg2 hp hq hG hr)⟩
theorem uq (hGT:iD G) (hE : ∀ vs w,(callFunc f vs).run P w = .ok (.enter f vs) w) (hg2 : ∀ args w,(callFunc g args).run P w = .ok (.enter g args) w) {q:Nat→Bool} {qI:Int→Bool}
  (hC : ∀ (s:ByteArray) (w:World),PredGrows P g #[] q w→Calls P f #[.string s, .func (.func g) #[] #[]] w fun e w'=>e = .returned (.bool (decide (0≤Lib.idxFunc q true s)))∧Below w.heap.size w w')
  (hp : ∀ r:Int,aO P G g [.int .i32 r] (.bool (qI r))) (hq : ∀ n:Nat,qI (.ofNat n)=q n) {p:UInt8→Bool} (hc:ClassOf p q) (s:aP) :
  aO P G f [.str s, .func (.func g) [] []] (.bool (ax (s.all p))):=by
 refine aO.below hE fun pl M w vs h hG hr hv=>?_
 obtain ⟨a,b,rfl,hv1,hv2⟩:=Ak hv;have e2:=yh hv2;subst e2;cases hv1
 have e:ax (s.all p)=decide (0≤Lib.idxFunc q true ⟨⟨s⟩⟩):=by
  rw [wz hc s];cases ha:s.all p with
  | true=>rw [(uL (p:=p)).2 ha,pC];rfl
  | false=>
   have:Nat.beq (eY p s) s.length=false:=by
    cases hb:Nat.beq (eY p s) s.length with
    | false=>rfl
    | true=>grind [uL,Nat.eq_of_beq_eq_true]
   simp_all
 rw [e];exact ⟨_, .bool _,hC ⟨⟨s⟩⟩ w (Bt hGT hg2 hp hq hG hr)⟩
end
theorem GL {lo hi:Nat} (h:hi<128):ClassOf (Ps (Int.ofNat lo) (Int.ofNat hi)) fun n=>aB (Int.ofNat n) (Int.ofNat lo) || aB (Int.ofNat hi) (Int.ofNat n) where
 low c _:=by unfold Ps;simp_all
 high n hn:=by rw [show aB (Int.ofNat hi) (Int.ofNat n)=true from ny (by grind)];simp_all
 none c hn:=Ve (ny (by grind))
end Go.Ev
namespace Go.Ev
open Go Go.RowKit
section
variable {P : Program} {G : eh} {f : FuncId}
theorem Hf {pl:Pl} {M:dl} {w:World} {h:AHeap} (hr:cE pl M h w) {l:List aP} {a:Addr} {n cap:Nat} (hv:VRel pl M (.ps (l.map mT) false) (.slice (some a) n cap)) (hne:l≠ []) :
  n=l.length∧n≤cap∧a=⟨a.block,a.off,none⟩∧a.block<w.heap.size∧∀ (j:Nat) (x:ByteArray),(l.map fun s=>(⟨⟨s⟩⟩:ByteArray))[j]? = some x→w.cell? ⟨a.block,a.off+j,none⟩=some (.string x):=by
 cases hv with
 | ps hl ht hm hs hc=>
  rename_i sz c;have hne':l.map mT≠ []:=by simp_all
  obtain ⟨m1,m2,m3,m4⟩:=hm hne';obtain ⟨t,fr,hb⟩:=hr.imm _ _ m2;have hsz:sz=1:=by
   cases l with
   | nil=>simp_all
   | cons s r=>exact ((hs (mT s) (by simp)).1).symm
  subst hsz;refine ⟨by simp,hl,by rw [← m1],hr.memLt m2,fun j x hj=>?_⟩;rw [pH] at hj;obtain ⟨s,e1,rfl⟩:=Ek.1 hj;have hlt:j<l.length:=(gj.1 e1).1;have q:=hc j (mT s) 0 (.str s) (by simp_all) rfl;rw [Nat.mul_one,pj] at q;have hin:a.off+j<c.size:=by grind
  have e2:c[a.off+j]? = some (c.getD (a.off+j) undef):=by simp_all
  simp only [World.cell?,hb];simp only [Option.isSome_none,gU,if_false];rw [e2];cases hq:c.getD (a.off+j) undef <;> rw [hq] at q <;> cases q
  rfl
theorem LS (hE : ∀ vs w,(callFunc f vs).run P w = .ok (.enter f vs) w)
  (hC : ∀ (bk o c:Nat) (xs:List ByteArray) (sep:ByteArray) (w:World),(∀ (j:Nat) x,xs[j]? = some x→w.cell? ⟨bk,o+j,none⟩=some (.string x))→bk<w.heap.size→xs.length≤140737488355328→xs.length≤c→
   (Lib.join (xs.map (·.data.toList)) sep.data.toList).length≤140737488355328→
   Calls P f #[.slice (some ⟨bk,o,none⟩) xs.length c, .string sep] w fun e w'=>e = .returned (.string ⟨(Lib.join (xs.map (·.data.toList)) sep.data.toList).toArray⟩)∧Below w.heap.size w w')
  (hN : ∀ (a:Option Addr) (c:Nat) (sep:ByteArray) (w:World),Calls P f #[.slice a 0 c, .string sep] w fun e w'=>e = .returned (.string ⟨#[]⟩)∧w'=w)
  (l:List aP) (sep:aP) (h1:l.length≤140737488355328) (h2:(Lib.join l sep).length≤140737488355328):aO P G f [.ls (l.map mT), .str sep] (.str (Lib.join l sep)):=by
 refine aO.below hE fun pl M w vs h hG hr hv=>?_
 obtain ⟨a,b,rfl,hv1,hv2⟩:=Ak hv;cases hv2
 have nil (p:Option Addr) (cap:Nat) (hl:l = []) : ∃ cv,VRel pl M (.str (Lib.join l sep)) cv∧Calls P f #[.slice p 0 cap, .string ⟨⟨sep⟩⟩] w fun e w'=>e = .returned cv∧Below w.heap.size w w':=by
  subst hl;exact ⟨.string ⟨⟨[]⟩⟩, .str _,Calls.mono (hN p cap ⟨⟨sep⟩⟩ w) fun e w' ⟨he,hw⟩=>⟨he,hw ▸ Below.refl _ _⟩⟩
 generalize hx:l.map mT=xs at hv1;cases hv1 with
 | lsn=>simp_all
 | lsp hp ht=>
  subst hx;by_cases hl:l = []
  ·subst hl;cases hp with
   | ps=>simp_all
  ·have hp':=hp;cases hp with
   | ps=>
    rename_i a cap sz c _ _ _ _ _;obtain ⟨e1,e2,e3,e4,e5⟩:=Hf hr hp' hl;have e6:(l.map fun s=>(⟨⟨s⟩⟩:ByteArray)).map (·.data.toList)=l:=by rw [List.map_map];exact List.map_id l
    have:=hC a.block a.off cap (l.map fun s=>⟨⟨s⟩⟩) ⟨⟨sep⟩⟩ w e5 e4 (by grind) (by grind) (by grind);rw [e6,← e3,cX,← e1] at this;exact ⟨.string ⟨⟨Lib.join l sep⟩⟩, .str _,this⟩
theorem E5 (hE : ∀ vs w,(callFunc f vs).run P w = .ok (.enter f vs) w)
  (hC : ∀ (s:ByteArray) (c:Nat) (w:World),c≤9223372036854775807→s.size * c≤140737488355328→Calls P f #[.string s, .int .i64 c] w fun e w'=>e = .returned (.string ⟨(Lib.repeatL s.data.toList c).toArray⟩)∧Below w.heap.size w w')
  (s:aP) (c:Nat) (h1:c≤9223372036854775807) (h2:s.length * c≤140737488355328):aO P G f [.str s, .int .i64 (.ofNat c)] (.str (Lib.repeatL s c)):=by
 refine aO.below hE fun pl M w vs h hG hr hv=>?_
 obtain ⟨a,b,rfl,hv1,hv2⟩:=Ak hv;cases hv1;cases hv2
 exact ⟨.string ⟨⟨Lib.repeatL s c⟩⟩, .str _,hC ⟨⟨s⟩⟩ c w h1 h2⟩
theorem LQ (hE : ∀ vs w,(callFunc f vs).run P w = .ok (.enter f vs) w)
  (hC : ∀ (s cs:ByteArray) (w:World),s.size≤9223372036854775807→cs.size<4294967281→(∀ (j:Nat) b,cs.data.toList[j]? = some b→b.toNat<128)→
   Calls P f #[.string s, .string cs] w fun e w'=>e = .returned (.string ⟨(Lib.trimS s.data.toList cs.data.toList).toArray⟩)∧Below w.heap.size w w')
  (s cs:aP) (h1:s.length≤9223372036854775807) (h2:cs.length<4294967281) (h3 : ∀ b,b∈cs→b.toNat<128):aO P G f [.str s, .str cs] (.str (Lib.trimS s cs)):=by
 refine aO.below hE fun pl M w vs h hG hr hv=>?_
 obtain ⟨a,b,rfl,hv1,hv2⟩:=Ak hv;cases hv1;cases hv2
 exact ⟨.string ⟨⟨Lib.trimS s cs⟩⟩, .str _,hC ⟨⟨s⟩⟩ ⟨⟨cs⟩⟩ w h1 h2 fun j b hj=>h3 b (bm hj)⟩
end
end Go.Ev
namespace Go.Ev
open Go
structure PId where
 a:Int
 i:Int
 n:Int
 deriving Inhabited,DecidableEq
noncomputable def aJ (p:PId):AV:= .agg [.int .i64 p.a, .int .i64 p.i, .int .i64 p.n]
theorem zL (p:PId):(aJ p).top=0:=rfl
def ae (u:TUnit):PId:=⟨u.act,u.item,u.n⟩
def bb (p q:PId):Bool:=ab p.a q.a && (ab p.i q.i && ab p.n q.n)
theorem tO {p q:PId} (h:bb p q=true):p=q:=by
 unfold bb at h;rw [bJ,bJ] at h;obtain ⟨a,b,c⟩:=p;obtain ⟨d,e,g⟩:=q;grind [gn]
theorem kE (p:PId):bb p p=true:=by simp [bb,bW]
abbrev fT (p:PId) (u:TUnit):Bool:=bb (ae u) p
theorem IW:KeyOf PId true 3 [(0,1),(1,1),(2,1)] aJ bb where
 eq a b:=by
  show wT [.int .i64 a.a, .int .i64 a.i, .int .i64 a.n] [.int .i64 b.a, .int .i64 b.i, .int .i64 b.n] [(0,1),(1,1),(2,1)]=_
  simp only [wT,jk,Rf,Il,kc,bb];cases h1:ab a.a b.a <;> cases h2:ab a.i b.i <;> cases h3:ab a.n b.n <;> rfl
 t a b h:=tO h
 refl a:=kE a
 same a:=by simp [aJ,mZ,jc,jB,kc,bW]
 top a:=rfl
mutual
def nU:TUnit→Nat
 | ⟨_,_,_,_,_,_,_,ks⟩=>1+dT ks
def dT:List TUnit→Nat
 | []=>0
 | k::r=>nU k+dT r
end
mutual
def m0:TUnit→Nat
 | ⟨_,_,_,_,_,_,_,ks⟩=>ke ks
def ke:List TUnit→Nat
 | []=>0
 | k::r=>Nat.max (1+m0 k) (ke r)
end
mutual
def bx:TUnit→List TUnit
 | ⟨x1,x2,x3,x4,x5,x6,x7,ks⟩=>⟨x1,x2,x3,x4,x5,x6,x7,ks⟩::dW ks
def dW:List TUnit→List TUnit
 | []=> []
 | k::r=>bx k++dW r
end
mutual
def aD (p:PId):TUnit→List TUnit
 | ⟨x1,x2,x3,x4,x5,x6,x7,ks⟩=>bif fT p ⟨x1,x2,x3,x4,x5,x6,x7,ks⟩ then [⟨x1,x2,x3,x4,x5,x6,x7,ks⟩] else match cb p ks with
  | []=> []
  | y::t=>⟨x1,x2,x3,x4,x5,x6,x7,ks⟩::y::t
def cb (p:PId):List TUnit→List TUnit
 | []=> []
 | k::r=>match aD p k with
  | []=>cb p r
  | y::t=>y::t
end
theorem iT (u:TUnit):nU u=1+dT u.kids:=by cases u;rw [nU];rfl
theorem l8:dT []=0:=by rw [dT]
theorem bc (k:TUnit) (r:List TUnit):dT (k::r)=nU k+dT r:=by rw [dT]
theorem Km (u:TUnit):m0 u=ke u.kids:=by cases u;rw [m0];rfl
theorem Cb:ke []=0:=by rw [ke]
theorem IA (k:TUnit) (r:List TUnit):ke (k::r)=Nat.max (1+m0 k) (ke r):=by rw [ke]
theorem c8 (u:TUnit):bx u=u::dW u.kids:=by cases u;rw [bx];rfl
theorem fH:dW [] = []:=by rw [dW]
theorem bE (k:TUnit) (r:List TUnit):dW (k::r)=bx k++dW r:=by rw [dW]
def dX (u:TUnit):List PId:=(bx u).map ae
def bq (l:List TUnit):List PId:=(dW l).map ae
theorem gz (u:TUnit):dX u=ae u::bq u.kids:=by unfold dX bq;rw [c8];rfl
theorem mj:bq [] = []:=by unfold bq;rw [fH];rfl
theorem dO (k:TUnit) (r:List TUnit):bq (k::r)=dX k++bq r:=by grind [dX,bq,bE]
theorem DV : ∀ {l:List TUnit} {k:TUnit},k∈l→nU k≤dT l
 | x::r,k,h=>by
  rw [bc];rcases eP.1 h with rfl | h
  ·omega
  ·have:=DV h;omega
theorem gw {u k:TUnit} (h:k∈u.kids):nU k<nU u:=by rw [iT u];have:=DV h;omega
theorem H0 (u:TUnit):0<nU u:=by grind [iT]
theorem xf : ∀ (l:List TUnit),l.length≤dT l
 | []=>by simp_all
 | k::r=>by
  rw [bc,cN];have:=xf r;grind [H0]
theorem bK (u:TUnit):u.kids.length<nU u:=by grind [iT,xf]
theorem Lh {l:List TUnit} (h : ∀ k,k∈l→(bx k).length=nU k):(dW l).length=dT l:=by
 induction l with
 | nil=>rw [fH,l8];rfl
 | cons k r ih=>grind [bE,bc]
theorem FZ : ∀ (u:TUnit),(bx u).length=nU u:=TUnit.ind fun u ih=>by grind [c8,iT,Lh]
theorem tG (u:TUnit):(dX u).length=nU u:=by grind [dX,FZ]
theorem Qg {l:List TUnit} {n:Nat} (h : ∀ k,k∈l→1+m0 k≤n):ke l≤n:=by
 induction l with
 | nil=>grind [Cb]
 | cons k r ih=>grind [IA]
theorem Dr : ∀ (u:TUnit),m0 u<nU u:=TUnit.ind fun u ih=>by
 have:ke u.kids≤dT u.kids:=Qg fun k hk=>by have:=ih k hk;have:=DV hk;omega
 grind [Km,iT]
section
variable {p : PId} {u w : TUnit} {r : List TUnit}
theorem gq (u:TUnit):aD p u=bif fT p u then [u] else match cb p u.kids with | []=> [] | y::t=>u::y::t:=by cases u;rw [aD];rfl
theorem ki:cb p [] = []:=by rw [cb]
theorem oe (k:TUnit) (r:List TUnit):cb p (k::r)=match aD p k with | []=>cb p r | y::t=>y::t:=by rw [cb]
def cJ (p:PId) (u:TUnit):Bool:=ax (aD p u).isEmpty
theorem zd (h:cJ p u=false):aD p u = []:=by grind [cJ]
theorem vU (h:cJ p u=true) : ∃ y t,aD p u=y::t:=by
 unfold cJ at h;cases e:aD p u with
 | nil=>grind
 | cons x r=>simp_all
theorem kR (h:cJ p u=true):aD p u≠ []:=by grind [vU]
theorem sN (h:fT p u=true):aD p u = [u]:=by rw [gq,h];rfl
theorem Dc (h:fT p u=true):cJ p u=true:=by unfold cJ;rw [sN h];rfl
theorem iF (h:cJ p w=false):cb p (w::r)=cb p r:=by rw [oe,zd h]
theorem nO (h:cJ p w=true):cb p (w::r)=aD p w:=by grind [vU,oe]
theorem NE (h:fT p u=false) (h2:cb p u.kids=cb p []):aD p u = []:=by rw [gq,h,h2,ki];rfl
theorem FT (h:fT p u=false) (h2:cb p u.kids=cb p []):cJ p u=false:=by unfold cJ;rw [NE h h2];rfl
theorem JX (h:fT p u=false) (h2:cb p u.kids=cb p (w::r)) (h3:cJ p w=true):aD p u=u::aD p w:=by grind [gq,nO,vU]
theorem TQ (h:fT p u=false) (h2:cb p u.kids=cb p (w::r)) (h3:cJ p w=true):cJ p u=true:=by unfold cJ;rw [JX h h2 h3];rfl
end
theorem lP {p:PId} : ∀ (u:TUnit),(aD p u).length≤nU u:=TUnit.ind fun u ih=>by
 rw [gq];cases fT p u with
 | true=>exact H0 u
 | false=>
  have key : ∀ (r:List TUnit),(∀ k,k∈r→k∈u.kids)→(cb p r).length≤dT r:=by
   intro r;induction r with
   | nil=>grind [ki]
   | cons k r ihr=>grind [oe,bc]
  grind [iT]
def ba:TUnit:=⟨0,0,0,0, [], [], [], []⟩
noncomputable def ej (p:PId) (u:TUnit):TUnit:=bif cJ p u then gD (aD p u) ((aD p u).length - 1) else ba
theorem JJ {p:PId} : ∀ (u:TUnit) (x:TUnit),x∈aD p u→x∈bx u:=TUnit.ind fun u ih=>by
 intro x hx;rw [gq] at hx;rw [c8];cases h:fT p u with
 | true=>simp_all
 | false=>
  rw [h] at hx;simp only [cond_false] at hx;have key : ∀ (r:List TUnit),(∀ k,k∈r→k∈u.kids)→∀ x,x∈cb p r→x∈dW r:=by
   intro r;induction r with
   | nil=>grind [ki]
   | cons k r ihr=>grind [oe,bE]
  grind
noncomputable def pc (p:Int × aP):AV:= .agg [.int .i64 p.1, .str p.2]
def mP (a b:Int × aP):Bool:=ab a.1 b.1 && dg a.2 b.2
theorem qi : ∀ (s:aP),dg s s=true
 | []=>rfl
 | c::r=>by simp only [dg,qi r,Bool.and_true];simp_all
theorem Gb : ∀ {a b:aP},dg a b=true→a=b
 | [], [],_=>rfl
 | c::r,d::q,h=>by
  simp only [dg,bJ] at h;rw [Gb h.2,UInt8.toNat_inj.1 (px h.1)]
theorem J5:KeyOf (Int × aP) true 2 [(0,1),(1,2)] pc mP where
 eq a b:=by
  show wT [.int .i64 a.1, .str a.2] [.int .i64 b.1, .str b.2] [(0,1),(1,2)]=_
  simp only [wT,jk,Rf,Il,kc,mP];cases h1:ab a.1 b.1 <;> cases h2:dg a.2 b.2 <;> rfl
 t a b h:=by
  simp only [mP,bJ] at h;grind [gn,Gb]
 refl a:=by simp [mP,bW,qi]
 same a:=by simp [pc,mZ,jc,jB,kc,bW,qi]
 top a:=rfl
noncomputable def dY (b:Bool):AV:= .bool b
theorem zM (b:Bool):(dY b).top=0:=rfl
def Nb {K:Type} (keq:K→K→Bool) (k:K) (l:List (K × Bool)):Bool:=(nG keq k l).getD false
section
variable {K : Type} {ag : Bool} {sz : Nat} {lv : List (Nat × Nat)} {kenc : K → AV} {keq : K → K → Bool}
theorem Fg (hk:KeyOf K ag sz lv kenc keq) (m:List (K × Bool)) (k:K):eF (some (.bool false)) false (bv ag sz lv (kenc k) (b8 kenc dY m 0) 0)=some (.bool (Nb keq k m)):=by
 rw [zJ hk];unfold Nb;cases nG keq k m with
 | none=>rfl
 | some v=>rfl
theorem JK (hk:KeyOf K ag sz lv kenc keq) (m:List (K × Bool)) (k:K):rk (b8 kenc dY m 0) m.length (kenc k) (.bool true) (bv ag sz lv (kenc k) (b8 kenc dY m 0) 0)=some (b8 kenc dY (fe keq k true m) 0,(fe keq k true m).length):=Ba (f:=dY) hk k true m
end
def oa (l:List PWord):Bool:=ax (aB 256 (.ofNat l.length)) && qW (l.map fun w=>w.text)
def mH (pk:Int):List TUnit→List ((Int × aP) × Bool)→Bool
 | [],_=>true
 | k::r,m=>jZ pk k.kind && (ax (Nb mP (k.kind,k.label) m) && mH pk r (fe mP (k.kind,k.label) true m))
def lG (u:TUnit):Bool:=(bif ab u.kind 0 then dg u.label [] && ax (aB 0 (.ofNat (u.head.length+u.words.length))) else ax (dg (cR u.kind) []) && (j8 u.label && (oa u.head && oa u.words))) && (mH u.kind u.kids [] && ax (aB 64 (.ofNat u.kids.length)))
def vf (q:TUnit→Bool) (u:TUnit):Bool:=(bx u).all q
theorem xB (q:TUnit→Bool) (u:TUnit):vf q u=(q u && (dW u.kids).all q):=by grind [vf,c8]
theorem NX (q:TUnit→Bool):(dW []).all q=true:=by rw [fH];rfl
theorem Ab (q:TUnit→Bool) (k:TUnit) (r:List TUnit):(dW (k::r)).all q=(vf q k && (dW r).all q):=by rw [bE,List.all_append];rfl
def Bm (l:List PId) (m:List (PId × Bool)):List (PId × Bool):=l.foldl (fun m p=>fe bb p true m) m
def bL:PId:=⟨0,0,0⟩
def PE (u:TUnit):Bool:=(Nb bb bL (Bm (dX u) []) && ab (.ofNat (Bm (dX u) []).length) 1) || (ab (.ofNat (Bm (dX u) []).length) (.ofNat (dX u).length) && (ab u.kind 0 == fT bL u))
def km (u:TUnit):Bool:=vf lG u && (ax (aB 8 (.ofNat (m0 u))) && (ax (aB 1024 (.ofNat (nU u))) && PE u))
theorem bh {u k:TUnit} (h:k∈u.kids) {x:TUnit} (hx:x∈bx k):x∈bx u:=by
 rw [c8];refine fK _ ?_;generalize u.kids=l at h;induction l with
 | nil=>grind
 | cons y r ih=>grind [bE]
theorem cV (u:TUnit):u∈bx u:=by grind [c8]
theorem J4 {u k:TUnit} (h:k∈u.kids):k∈bx u:=bh h (cV k)
end Go.Ev
namespace Go.Ev
open Go
def cZ {α:Type} (q:α→α→Bool):List α→List α→Bool
 | [], []=>true
 | x::l,y::m=>q x y && cZ q l m
 | _,_=>false
theorem lq {α:Type} {q:α→α→Bool} : ∀ {l m:List α},l.length≠m.length→cZ q l m=false
 | [], [],h=>absurd rfl h
 | [],y::m,_=>rfl
 | x::l, [],_=>rfl
 | x::l,y::m,h=>by
  unfold cZ;rw [lq (l:=l) (m:=m) (fun e=>h (by simp [e]))];exact vu _
theorem Ga {α:Type} {q:α→α→Bool} (hq : ∀ a b,q a b=true↔a=b) : ∀ {l m:List α},cZ q l m=true↔l=m
 | [], []=>by simp [cZ]
 | [],y::m=>by simp [cZ]
 | x::l, []=>by simp [cZ]
 | x::l,y::m=>by simp [cZ,hq,Ga hq (l:=l) (m:=m)]
section
variable {α : Type} [Inhabited α] {q : α → α → Bool} {l m x r : List α} {w : α} {j : Nat}
omit [Inhabited α] in
theorem zD:cZ q l m=cZ q l (m.drop (l.length - l.length)):=by simp_all
theorem xr {m:List α} {j:Nat} (h:j<m.length):m.drop j=gD m j::m.drop (j+1):=by grind [List.drop_eq_getElem_cons,gD]
theorem iq (h1:l.drop j=x) (h2:x=w::r) (hl:l.length=m.length) (h3:cZ q l m=cZ q (w::r) (m.drop (l.length - (w::r).length))):cZ q l m=(q w (gD m j) && cZ q r (m.drop (l.length - r.length))):=by
 have e:=congrArg List.length (h1.trans h2);simp only [xE,cN] at e;rw [h3,(oV h1 h2).1,(oV h1 h2).2,xr (by omega),cZ]
omit [Inhabited α] in
theorem mS (hl:l.length=m.length) (h3:cZ q l m=cZ q [] (m.drop (l.length - ([]:List α).length))):cZ q l m=true:=by rw [h3,gh,Nat.sub_zero,hl,List.drop_length];rfl
end
def Al (a b:PWord):Bool:=dg a.text b.text && (ab a.act b.act && (ab a.item b.item && ab a.at_ b.at_))
theorem Ta (a b:PWord):Al a b=true↔a=b:=by
 obtain ⟨t,x,y,z⟩:=a;obtain ⟨t',x',y',z'⟩:=b;simp only [Al,bJ,PWord.mk.injEq];constructor
 ·grind [Gb,gn]
 ·grind [qi,bW]
mutual
def Am:TUnit→TUnit→Bool
 | ⟨a,i,n,k,l,h,w,ks⟩,v=>bb ⟨a,i,n⟩ (ae v) && (ab k v.kind && (dg l v.label && (cZ Al h v.head && (cZ Al w v.words && MC ks v.kids))))
def MC:List TUnit→List TUnit→Bool
 | [], []=>true
 | k::r, []=>false
 | k::r,x::s=>Am k x && MC r s
 | [],x::s=>false
end
theorem Ii (u v:TUnit):Am u v=(bb (ae u) (ae v) && (ab u.kind v.kind && (dg u.label v.label && (cZ Al u.head v.head && (cZ Al u.words v.words && cZ Am u.kids v.kids))))):=by
 have key : ∀ (l m:List TUnit),MC l m=cZ Am l m:=by
  intro l;induction l with
  | nil=>intro m;cases m <;> (rw [MC];rfl)
  | cons x l ih=>intro m;cases m with | nil=>rw [MC];rfl | cons y m=>rw [MC,ih];rfl
 cases u
 rw [Am,key];rfl
theorem Tb : ∀ (u v:TUnit),Am u v=true↔u=v:=TUnit.ind fun u ih=>by
 have key : ∀ (l:List TUnit),(∀ k,k∈l→k∈u.kids)→∀ m,cZ Am l m=true↔l=m:=by
  intro l;induction l with
  | nil=>grind [cZ]
  | cons x l ihl=>
   intro hm m;cases m with
   | nil=>simp [cZ]
   | cons y m=>grind [cZ]
 intro v;rw [Ii];simp only [bJ,key u.kids (fun _ h=>h),Ga Ta];obtain ⟨a,i,n,k,l,h,w,ks⟩:=u;obtain ⟨a',i',n',k',l',h',w',ks'⟩:=v;simp only [TUnit.mk.injEq,ae,TUnit.act,TUnit.item,TUnit.n,TUnit.kind,TUnit.label,TUnit.head,TUnit.words,TUnit.kids];constructor
 ·grind [tO,gn,Gb]
 ·rintro ⟨rfl,rfl,rfl,rfl,rfl,rfl,rfl,rfl⟩
  exact ⟨kE _,bW _,qi _,rfl,rfl,rfl⟩
end Go.Ev
namespace Go.Ev
open Go
def Hq (u v:AV):Prop:=(Sc v→Sc u)∧Les u.cells v.cells
theorem Hq.refl (v:AV):Hq v v:=⟨id,Les.refl _⟩
theorem Hq.one {u v:AV} (hu:u.cells = [u]) (hv:v.cells = [v]) (hs:cG u=true) (h:Le u v):Hq u v:=⟨fun _ y hy=>by simp_all,by rw [hu,hv];exact .cons h .nil⟩
inductive LesC:List AV→List AV→Prop
 | nil:LesC [] []
 | cons {u v:AV} {us vs:List AV} (h:Hq u v) (k:LesC us vs):LesC (u::us) (v::vs)
theorem LesC.len {us vs:List AV} (h:LesC us vs):us.length=vs.length:=by
 induction h with
 | nil=>rfl
 | cons _ _ ih=>simp_all
theorem LesC.at_ {us vs:List AV} (h:LesC us vs) : ∀ (j:Nat) (u:AV),us[j]? = some u→∃ v,vs[j]? = some v∧Hq u v:=by
 induction h with
 | nil=>simp_all
 | cons h k ih=>grind
theorem EQ {xs ys:List AV} {t:Bool} (h:LesC xs ys):Le (.ps xs false) (.ps ys t):=fun pl M v hv=>by
 cases hv with
 | @ps _ _ a cap sz c hl ht hm hs hc=>
  rw [← h.len];refine .ps (sz:=sz) (c:=c) (by rw [h.len];omega) (fun h=>by grind) (fun hx=>?_) (fun x hx=>?_) fun i x j y hx hy=>?_
  ·have:ys≠ []:=fun e=>hx (rh (by rw [h.len,e];rfl))
   rw [h.len];simp_all
  ·obtain ⟨i,hi⟩:=BK hx;obtain ⟨y,h1,h2,h3⟩:=h.at_ i x hi;have:=hs y (bm h1);exact ⟨h3.len.trans this.1,h2 this.2⟩
  ·obtain ⟨z,h1,_,h3⟩:=h.at_ i x hx;obtain ⟨d,h4,h5⟩:=h3.at_ j y hy;exact h5 _ _ _ (hc i z j d h1 h4)
theorem WY {xs ys:List AV} {t:Bool} (h:LesC xs ys) (h0:aq xs=0):Le (.ls xs) (.ps ys t):=fun pl M v hv=> .lsp (EQ h pl M v hv) h0
theorem WU {xs ys:List AV} (h:LesC xs ys) (h0:aq xs=0):Le (.ls xs) (.ls ys):=fun pl M v hv=>by
 cases hv with
 | lsn=>cases h;exact .lsn
 | lsp hv _=>exact .lsp (EQ h pl M v hv) h0
theorem Le.pls {x:AV} {xs ys:List AV} (h:LesC (x::xs) ys):Le (.ps (x::xs) false) (.ls ys):=fun pl M v hv=>by
 cases hv with
 | lsn=>cases h
 | lsp hv _=>exact EQ h pl M v hv
mutual
def Ai:AV→AV→Bool
 | .ls xs, .nils=>xs.isEmpty
 | .ls xs, .ps ys _=>kz xs ys && Nat.beq (aq xs) 0
 | .ls xs, .ls ys=>kz xs ys && Nat.beq (aq xs) 0
 | .ps (x::xs) false, .ls ys=>kz (x::xs) ys
 | .ps xs false, .ps ys _=>kz xs ys
 | .agg us, .agg vs=>kz us vs && us.all cG
 | u,v=>AV.same u v
def kz:List AV→List AV→Bool
 | [], []=>true
 | a::us,b::vs=>Ai a b && kz us vs
 | _,_=>false
end
theorem Hq.same {u v:AV} (h:AV.same u v=true):Le u v∧Hq u v:=by grind [AV.same_eq,Le.refl,Hq.refl]
mutual
theorem vi : ∀ (u v:AV),Ai u v=true→Le u v∧Hq u v:=fun u v h=>by
 unfold Ai at h;split at h
 ·rename_i xs;have e:xs = []:=by simp_all
  subst e;exact ⟨Le.nils,Hq.one rfl rfl rfl Le.nils⟩
 ·rename_i xs ys t;have h:=nL.1 h;have k:=WY (t:=t) (jl xs ys h.1).2 (px h.2);exact ⟨k,Hq.one rfl rfl rfl k⟩
 ·rename_i xs ys;have h:=nL.1 h;have k:=WU (jl xs ys h.1).2 (px h.2);exact ⟨k,Hq.one rfl rfl rfl k⟩
 ·rename_i x xs ys;have k:=Le.pls (jl (x::xs) ys h).2;exact ⟨k,Hq.one rfl rfl rfl k⟩
 ·rename_i xs ys t;have k:=EQ (t:=t) (jl xs ys h).2;exact ⟨k,Hq.one rfl rfl rfl k⟩
 ·rename_i us vs;have h:=nL.1 h;have k:=jl us vs h.1;exact ⟨aN k.1 h.2,fun _ y hy=>nW.1 h.2 y hy,k.1⟩
 ·exact Hq.same h
theorem jl : ∀ (us vs:List AV),kz us vs=true→Les us vs∧LesC us vs:=fun us vs h=>by
 unfold kz at h;split at h
 ·exact ⟨.nil, .nil⟩
 ·rename_i a us b vs;have h:=nL.1 h;have h1:=vi a b h.1;have h2:=jl us vs h.2;exact ⟨.cons h1.1 h2.1, .cons h1.2 h2.2⟩
 ·grind
end
section
variable {P : Program} {G : eh} {f : FuncId} {a b : List AV} {u v : AV}
theorem aO.args (h:aO P G f a v) (hl:Les a b):aO P G f b v:=fun hp pl M w vs hg hr hv=>h hp pl M w vs hg hr (hv.le hl)
theorem aO.lessB (h:aO P G f a v) (hl:Ai u v=true):aO P G f a u:=h.less (vi _ _ hl).1
theorem U9 (a b:Nat):BO (.ofNat a) (.ofNat b) = .ofNat (Nat.max a b):=by
 unfold BO;cases h:aB (.ofNat a) (.ofNat b) with
 | true=>
  have h:=au h;grind
 | false=>
  have h:=aL h;simp_all
theorem mO {xs ys:List AV} {i t:Nat} {r:List (Nat × Nat)} {x y:AV} {e c:Bool} (hx:jk xs i=some x) (hy:jk ys i=some y) (h:Il t x y=some e) (k:wT xs ys r=some c):wT xs ys ((i,t)::r)=some (e && c):=by
 simp only [wT,hx,hy,Rf,h];cases e with
 | true=>exact k
 | false=>rfl
theorem zC {xs ys:List AV} {i t:Nat} {r:List (Nat × Nat)} {x y:AV} {e:Bool} (hx:jk xs i=some x) (hy:jk ys i=some y) (h:Il t x y=some e) (k:wT xs ys r=some true):wT xs ys ((i,t)::r)=some e:=by
 simp only [wT,hx,hy,Rf,h];cases e with
 | true=>exact k
 | false=>rfl
theorem DR {d:Option TypeDesc} {n:Nat} {l:List (Nat × Nat)} {xs ys:List AV} {c:Bool} {H:AHeap} (hn:(Nat.beq xs.length n && Nat.beq ys.length n)=true) (hl:wT xs ys l=some c) :
  bj H (Ro (pm .eql d (some true) (some n) (some l)) (some (.agg xs)) (some (.agg ys)))=some (.val (.bool c) H):=by
 grind [Ro,pm,VE,oG,bj]
theorem xC {d:Option TypeDesc} {n:Nat} {l:List (Nat × Nat)} {xs ys:List AV} {c:Bool} {H:AHeap} (hn:(Nat.beq xs.length n && Nat.beq ys.length n)=true) (hl:wT xs ys l=some c) :
  bj H (Ro (pm .neq d (some true) (some n) (some l)) (some (.agg xs)) (some (.agg ys)))=some (.val (.bool (!c)) H):=by
 grind [Ro,pm,VE,oG,bj]
def wx:List (FuncId × List AV × AV)→XF
 | [],_,_,_=>none
 | x::r,g,b,h=>match Nat.beq g x.1 with
  | true=>(match kz x.2.1 b with | true=>some (x.2.2,h) | false=>wx r g b h)
  | false=>wx r g b h
theorem zb : ∀ {L:List (FuncId × List AV × AV)} {g:FuncId} {h h1:AHeap} {v1:AV},wx L g b h=some (v1,h1)→∃ x,x∈L∧g=x.1∧kz x.2.1 b=true∧v1=x.2.2∧h1=h
 | [],_,_,_,_,e=>by grind [wx]
 | x::r,g,h,h1,v1,e=>by
  unfold wx at e;have next:wx r g b h=some (v1,h1)→∃ y,y∈x::r∧g=y.1∧kz y.2.1 b=true∧v1=y.2.2∧h1=h:=fun e=>
   let ⟨y,k,q⟩:=zb e
   ⟨y,fK _ k,q⟩
  grind [Nat.eq_of_beq_eq_true]
theorem PG {C:Cfg} {L:List (FuncId × List AV × AV)} (hC:C.hook=wx L) (hL : ∀ x,x∈L→aO C.P C.G x.1 x.2.1 x.2.2):I2 C:=fun g b hp v1 h1 e pl M w vs hg hr hv=>by
 rw [hC] at e;obtain ⟨x,hx,rfl,hl,rfl,rfl⟩:=zb e;rcases hL x hx h1 pl M w vs hg hr (hv.le (jl _ _ hl).1) with ⟨k1,k2⟩ | ⟨cv,w',v2,h2,k1,⟨rfl,rfl⟩,k3⟩
 ·refine .inl ⟨k1,fun cs=>?_⟩;obtain ⟨en,w',fr,⟨cv,v2,h2,e1,⟨rfl,rfl⟩,k3⟩,r⟩:=k2 cs;grind
 ·exact .inr ⟨cv,w',k1,k3⟩
def Wh (v:AV):Option (AV × AHeap)→Bool
 | some (u,_)=>Ai v u && Nat.beq u.top 0
 | none=>false
theorem aO.closed {C:Cfg} {k:Nat} (hG:iD C.G) (ev:cw C.P C.G (ie C k)) (ht:aq a=0) (h:Wh v (ie C k f a AHeap.none)=true):aO C.P C.G f a v:=by
 cases hx:ie C k f a AHeap.none with
 | none=>rw [hx] at h;cases h
 | some r=>
  obtain ⟨u,h1⟩:=r;rw [hx] at h;have h:=nL.1 h;exact (ow hG ht (px h.2) ((aF.of ev hx).mono fun v1 _ e=>e.1)).lessB h.1
end
end Go.Ev
namespace Go.Ev
open Go
theorem aO.ls0 {P:Program} {G:eh} {f:FuncId} {r:List AV} {v:AV} (h1:aO P G f (.nils::r) v) (h2:aO P G f (.ps [] false::r) v):aO P G f (.ls []::r) v:=fun h=>EW (fun _ _ _ hv=>VRels.first hv fun _ hv=>hv.ls0) (h1 h) (h2 h)
theorem QW {p:PId} {u:TUnit} (h:cJ p u=true):ej p u∈aD p u:=by
 unfold ej;rw [h];have:=pG.2 (kR h);grind [gH]
theorem Aa : ∀ (u:TUnit),eX u=(bx u).flatMap jL:=by
 refine TUnit.ind fun u ih=>?_
 rw [xA,c8,EU];congr 1;have key : ∀ (l:List TUnit),(∀ k,k∈l→k∈u.kids)→fY l=(dW l).flatMap jL:=by
  intro l;induction l with
  | nil=>intro _;rw [ma,fH];rfl
  | cons k r ihr=>grind [dU,bE]
 simp_all
theorem NF {p:PId} : ∀ (u:TUnit),cJ p u=true→ae (ej p u)=p:=by
 refine TUnit.ind fun u ih h=>?_
 unfold ej;rw [h];simp only [cond_true];cases hh:fT p u with
 | true=>rw [sN hh];exact tO hh
 | false=>
  have key : ∀ (r:List TUnit),(∀ k,k∈r→k∈u.kids)→cb p r≠ []→ae (gD (cb p r) ((cb p r).length - 1))=p:=by
   intro r;induction r with
   | nil=>grind [ki]
   | cons k r ihr=>grind [nO,ej,iF]
  have k2:=key u.kids fun _ h=>h
  obtain ⟨y,t,e⟩:=vU h;rw [gq,hh] at e ⊢;grind [gD]
theorem KW {p:PId} : ∀ (u:TUnit),(∃ x,x∈bx u∧ae x=p)→cJ p u=true:=by
 refine TUnit.ind fun u ih ⟨x,hx,hp⟩=>?_
 cases hh:fT p u with
 | true=>grind [Dc]
 | false=>
  rw [c8] at hx;rcases eP.1 hx with rfl | hx
  ·simp_all [fT,kE]
  ·have key : ∀ (l:List TUnit),(∀ k,k∈l→k∈u.kids)→x∈dW l→cb p l≠ []:=by
    intro l;induction l with
    | nil=>grind [fH]
    | cons k r ihr=>grind [bE,cJ,nO,iF]
   grind [cJ,gq]
theorem BM {α β:Type} {f:α→β} : ∀ {l:List α},(l.map f).Nodup→∀ {x y:α},x∈l→y∈l→f x=f y→x=y
 | a::l,h,x,y,hx,hy,e=>by
  rw [ee,List.nodup_cons] at h;rcases eP.1 hx with h1 | h1
  ·grind
  ·rcases eP.1 hy with h2 | h2
   ·simp_all
   ·exact BM h.2 h1 h2 e
theorem Cv {K V:Type} {kenc:K→AV} {f:V→AV} : ∀ (l:List (K × V)) (i:Nat),(b8 kenc f l i).length=l.length
 | [],_=>rfl
 | (k,v)::r,i=>by rw [b8,cN,Cv r,cN]
theorem Lq (m:List (PId × Bool)):Bm [] m=m:=rfl
theorem Qw {n:Nat} (h:0<n):ab (Int.ofNat n) 0=false:=by grind [rZ]
def Cq (p:PId):TUnit→Option TUnit:=fun u=>(bx u).find? (fT p)
theorem Rl {p:PId} : ∀ (u:TUnit),(cJ p u=true→Cq p u=some (ej p u))∧(cJ p u=false→Cq p u=none):=by
 refine TUnit.ind fun u ih=>?_
 unfold Cq;rw [c8];cases hh:fT p u with
 | true=>
  rw [List.find?_cons_of_pos (by omega)];refine ⟨fun h=>?_,fun h=>by grind [Dc]⟩;unfold ej;rw [h,sN hh];rfl
 | false=>
  rw [List.find?_cons_of_neg (by simp_all)];have key : ∀ (r:List TUnit),(∀ k,k∈r→k∈u.kids)→(cb p r≠ []→(dW r).find? (fT p)=some (gD (cb p r) ((cb p r).length - 1)))∧(cb p r = []→(dW r).find? (fT p)=none):=by
   intro r;induction r with
   | nil=>grind [ki,fH]
   | cons k r ihr=>
    intro hm;have ik:=ih k (hm k (fg ..));have ir:=ihr fun z hz=>hm z (fK _ hz)
    rw [bE,List.find?_append];cases hk:cJ p k with
    | true=>grind [Cq,nO,kR,ej]
    | false=>grind [Cq,iF]
  have k2:=key u.kids fun _ h=>h
  refine ⟨fun h=>?_,fun h=>?_⟩
  ·obtain ⟨y,t,e⟩:=vU h;unfold ej;rw [h,gq,hh];rw [gq,hh] at e;grind [gD]
  ·have e:=zd h;grind [gq]
theorem gy (p:PId) (u:TUnit):fT p u=true↔ae u=p:=⟨tO,fun h=>by simp_all [fT,kE]⟩
theorem HH {y x:TUnit} : ∀ (u:TUnit),y∈bx u→x∈bx y→x∈bx u:=by
 refine TUnit.ind fun u ih h hx=>?_
 rw [c8] at h ⊢;rcases eP.1 h with rfl | h
 ·grind [c8]
 ·refine fK _ ?_;have key : ∀ (l:List TUnit),(∀ k,k∈l→k∈u.kids)→y∈dW l→x∈dW l:=by
   intro l;induction l with
   | nil=>grind [fH]
   | cons k r ihr=>grind [bE]
  simp_all
theorem g0 {y x u:TUnit} (h:y∈bx u) (hx:x∈bx y):x∈bx u:=HH u h hx
theorem Of {x:TUnit} : ∀ (u:TUnit),x∈bx u→nU x≤nU u:=by
 refine TUnit.ind fun u ih h=>?_
 rw [c8] at h;rcases eP.1 h with rfl | h
 ·omega
 ·have key : ∀ (l:List TUnit),(∀ k,k∈l→k∈u.kids)→x∈dW l→nU x<nU u:=by
   intro l;induction l with
   | nil=>grind [fH]
   | cons k r ihr=>grind [bE,Nat.lt_of_le_of_lt,gw]
  grind
theorem dH {x u:TUnit} (h:x∈bx u):nU x≤nU u:=Of u h
section
variable {p : PId} {u w : TUnit} {r : List TUnit}
end
end Go.Ev
namespace Go.Ev
open Go
def kX (a b:PStep):Bool:=ab a.kind b.kind && dg a.label b.label
mutual
def Dl:PItem→PItem→Bool
 | ⟨k,a,t,w,n,u,o,ne,l,f,s,ac,im,d,e,bs⟩,v=>
  (ab k v.kind && (ab w v.where_ && (ab n v.nth_ && (ab ac v.act && (ab im v.item && ab d v.day)))))
  && ((dg l v.label && (dg f v.for_ && (dg e v.event && (ab s.kind v.start.kind && (ab s.day v.start.day && dg s.event v.start.event)))))
  && ((cZ kX a v.at_ && (cZ kX t v.to && (cZ dg o v.old && cZ dg ne v.new)))
  && (Am u v.unit && Cj bs v.by_)))
def Cj:List PItem→List PItem→Bool
 | [], []=>true
 | k::r, []=>false
 | k::r,x::s=>Dl k x && Cj r s
 | [],x::s=>false
end
theorem Qk : ∀ (l m:List PItem),Cj l m=cZ Dl l m:=by
 intro l;induction l with
 | nil=>intro m;cases m <;> (rw [Cj];rfl)
 | cons x l ih=>intro m;cases m with | nil=>rw [Cj];rfl | cons y m=>rw [Cj,ih];rfl
theorem Tc (u v:PItem):Dl u v=((ab u.kind v.kind && (ab u.where_ v.where_ && (ab u.nth_ v.nth_ && (ab u.act v.act && (ab u.item v.item && ab u.day v.day)))))
  && ((dg u.label v.label && (dg u.for_ v.for_ && (dg u.event v.event && (ab u.start.kind v.start.kind && (ab u.start.day v.start.day && dg u.start.event v.start.event)))))
  && ((cZ kX u.at_ v.at_ && (cZ kX u.to v.to && (cZ dg u.old v.old && cZ dg u.new v.new)))
  && (Am u.unit v.unit && cZ Dl u.by_ v.by_)))):=by
 cases u
 rw [Dl,Qk];rfl
noncomputable def DJ (s:aP):Bool:=ax (aB (.ofNat s.length) 1) && (ax (aB 16 (.ofNat s.length)) && (ax (aB (.ofNat (gD s 0).toNat) 97) && (ax (aB 122 (.ofNat (gD s 0).toNat)) && dg (Lib.trimS s [97,98,99,100,101,102,103,104,105,106,107,108,109,110,111,112,113,114,115,116,117,118,119,120,121,122,48,49,50,51,52,53,54,55,56,57,45]) [])))
def rY (n:Bool) (s:PStart):Bool:=bif ab s.kind 0 || ab s.kind 2 then ab s.day 0 && dg s.event [] else bif ab s.kind 1 then (ax (aB s.day 0) && ax (aB 1048576 s.day)) && dg s.event [] else bif ab s.kind 3 then ab s.day 0 && n else false
end Go.Ev
namespace Go.Ev
open Go
def bi (s:PStep) (u:TUnit):Bool:=ab u.kind s.kind && dg u.label s.label
def gk:List PStep→List TUnit→List TUnit
 | [],l=>l
 | s::r,l=>gk r (l.flatMap fun x=>x.kids.filter (bi s))
def dP (u:TUnit) (p:List PStep):List TUnit:=bif kf p then (match p with
 | []=> [u]
 | s::r=>gk r (bif m9 s then [u] else (bx u).filter (bi s))) else []
noncomputable def aC (u:TUnit) (p:List PStep):PId × Int:=match dP u p with
 | []=>(bL,7)
 | [x]=>(ae x,0)
 | _=>(bL,8)
def jx (p:PId) (u:TUnit):Bool:=ax (aB (.ofNat (aD p u).length) 2)
noncomputable def Hb (p:PId) (u:TUnit):TUnit:=gD (aD p u) ((aD p u).length - 2)
noncomputable def sV (p:PId) (u:TUnit):PId:=bif jx p u then ae (Hb p u) else bL
noncomputable def qV (p:PId) (u:TUnit):Int:=bif jx p u then dm (cJ p) (Hb p u).kids 0 else -1
def pn (p:PId) (u:TUnit):List PId:=(((aD p u).take ((aD p u).length - 1)).map ae).reverse
structure PSpot where
 id:PId
 at_:Int
 deriving Inhabited
noncomputable def fX (s:PSpot):AV:= .agg [.int .i64 s.id.a, .int .i64 s.id.i, .int .i64 s.id.n, .int .i64 s.at_]
def dC:PSpot:=⟨bL,0⟩
noncomputable def ng (u:TUnit) (p:PId) (n:Int):PSpot × Int:=bif jx p u then (⟨sV p u,qV p u+n⟩,0) else (dC,9)
noncomputable def dz (w:Int) (u:TUnit) (p:PId):PSpot × Int:=bif ab w 0 then (⟨p,0⟩,0) else bif ab w 1 then (⟨p, .ofNat (ej p u).kids.length⟩,0) else bif ab w 2 then ng u p 1 else ng u p 0
def iy (n:Int):Bool:=ax (aB n 0) && ax (aB 3 n)
def cY (act item:Int):List aP→Nat→List PWord
 | [],_=> []
 | s::r,n=>⟨s,act,item, .ofNat n⟩::cY act item r (n+1)
def bD (l:List PWord):List aP:=l.map fun w=>w.text
theorem fI (a i:Int) : ∀ (l:List aP) (n:Nat),(cY a i l n).length=l.length
 | [],_=>rfl
 | s::r,n=>by rw [cY,cN,fI a i r,cN]
mutual
def ch (a i:Int):TUnit→Nat→Nat→TUnit
 | ⟨_,_,_,k,l,h,ws,ks⟩,n,w=>⟨a,i, .ofNat (n+1),k,l,cY a i (bD h) w,cY a i (bD ws) (w+h.length),eW a i ks (n+1) (w+h.length+ws.length)⟩
def eW (a i:Int):List TUnit→Nat→Nat→List TUnit
 | [],_,_=> []
 | k::r,n,w=>ch a i k n w::eW a i r (n+nU k) (w+(eX k).length)
end
theorem Bi (a i:Int) (u:TUnit) (n w:Nat):ch a i u n w=⟨a,i, .ofNat (n+1),u.kind,u.label,cY a i (bD u.head) w,cY a i (bD u.words) (w+u.head.length),eW a i u.kids (n+1) (w+u.head.length+u.words.length)⟩:=by cases u;rw [ch];rfl
theorem ED (a i:Int) (n w:Nat):eW a i [] n w = []:=by rw [eW]
theorem CI (a i:Int) (k:TUnit) (r:List TUnit) (n w:Nat):eW a i (k::r) n w=ch a i k n w::eW a i r (n+nU k) (w+(eX k).length):=by rw [eW]
def u0 (part:List aP):Nat→List aP→Nat→List Nat
 | 0,_,_=> []
 | f+1,l,i=>bif Nat.ble (i+part.length) l.length then (bif cZ dg ((l.drop i).take part.length) part then i::u0 part f l (i+part.length) else u0 part f l (i+1)) else []
def sU (l part:List aP):List Nat:=bif part.isEmpty then [] else u0 part (l.length+1) l 0
end Go.Ev
namespace Go.Ev
open Go
def oP (w:PWord):Bool:=ax (ab w.act 0 && (ab w.item 0 && ab w.at_ 0))
def Cp (x:TUnit):Bool:=fT bL x && (ax (x.head.any oP) && ax (x.words.any oP))
def G2 (u:TUnit):Bool:=km u && vf Cp u
def gC (w:PWord):PWord:=⟨w.text,0,0,0⟩
mutual
def cF:TUnit→TUnit
 | ⟨_,_,_,k,l,h,w,ks⟩=>⟨0,0,0,k,l,h.map gC,w.map gC,sT ks⟩
def sT:List TUnit→List TUnit
 | []=> []
 | k::r=>cF k::sT r
end
theorem yJ : ∀ (l:List TUnit),sT l=l.map cF
 | []=>by rw [sT];rfl
 | k::r=>by rw [sT,yJ r];rfl
theorem mJ (u:TUnit):cF u=⟨0,0,0,u.kind,u.label,u.head.map gC,u.words.map gC,u.kids.map cF⟩:=by cases u;rw [cF,yJ];rfl
theorem PH {p:PId} {u:TUnit} (h:cJ p u=false):jx p u=false:=by unfold jx;rw [zd h];rfl
theorem UT {p:PId} {u:TUnit} (h:jx p u=false):sV p u=bL:=by unfold sV;simp_all
theorem Oo {p:PId} {u:TUnit} (h:jx p u=false):qV p u = -1:=by unfold qV;simp_all
theorem HI {p:PId} {u:TUnit} (h:jx p u=true):sV p u=ae (Hb p u):=by unfold sV;simp_all
theorem HL {p:PId} {u:TUnit} (h:jx p u=true):qV p u=dm (cJ p) (Hb p u).kids 0:=by unfold qV;simp_all
def oU (p:PId) (u:TUnit) (k:Nat):List PId:=((((aD p u).take ((aD p u).length - 1)).drop k).map ae).reverse
theorem DP (p:PId) (u:TUnit):oU p u 0=pn p u:=rfl
theorem Ct (p:PId) (u:TUnit):oU p u ((aD p u).length - 1) = []:=by
 unfold oU;simp_all
theorem Ay (p:PId) (u:TUnit) {k:Nat} (h:k+1<(aD p u).length):oU p u k=oU p u (k+1)++ [ae (gD (aD p u) k)]:=by
 unfold oU;have h1:k<((aD p u).take ((aD p u).length - 1)).length:=by grind
 rw [Ni h1,ee,List.reverse_cons];grind [gD]
theorem Cs (p:PId) (u:TUnit) (k:Nat):(oU p u k).length≤(aD p u).length:=by grind [oU]
def lQ (s:PStep) (u:TUnit):List TUnit:=(bx u).filter (bi s)
def dV (s:PStep) (l:List TUnit):List TUnit:=(dW l).filter (bi s)
theorem yt (s:PStep) (u:TUnit):lQ s u=(bif bi s u then [u] else [])++dV s u.kids:=by
 unfold lQ dV;rw [c8,List.filter_cons];grind
theorem mC (s:PStep):dV s [] = []:=by unfold dV;rw [fH];rfl
theorem gm (s:PStep) (k:TUnit) (r:List TUnit):dV s (k::r)=lQ s k++dV s r:=by grind [lQ,dV,bE]
theorem mU (s:PStep) (u:TUnit):(lQ s u).length≤nU u:=by grind [lQ,FZ]
theorem sx : ∀ (l m:List TUnit),dT (l++m)=dT l+dT m
 | [],m=>by rw [l8,pI,gY]
 | x::r,m=>by rw [xL,bc,bc,sx r m,Nat.add_assoc]
theorem yP (q:TUnit→Bool) : ∀ (l:List TUnit),dT (l.filter q)≤dT l
 | []=>by simp_all
 | x::r=>by
  rw [List.filter_cons,bc];have:=yP q r;cases q x with
  | true=>rw [if_pos rfl,bc];omega
  | false=>grind
theorem yO (q:TUnit→Bool) : ∀ (l:List TUnit),dT (l.flatMap fun x=>x.kids.filter q)≤dT l
 | []=>by simp_all
 | x::r=>by
  rw [EU,sx,bc];have:=yO q r;grind [yP,iT]
theorem JG {n:Nat} : ∀ (l:List TUnit),(∀ x,x∈l→nU x≤n)→dT l≤n * l.length
 | [],_=>by simp_all [l8]
 | x::r,h=>by
  rw [bc,cN,Nat.mul_add,Nat.mul_one];have:=h x (fg ..);have:=JG r fun y hy=>h y (fK _ hy)
  omega
theorem Fw (s:PStep) (u:TUnit) (hp : ∀ x,x∈bx u→nU x≤nU u):dT (lQ s u)≤nU u * nU u:=by
 have h1:=JG (n:=nU u) (lQ s u) fun x hx=>hp x (sF.1 hx).1
 exact bH h1 (Nat.mul_le_mul_left _ (mU s u))
theorem Hg (l:List TUnit):gk [] l=l:=rfl
theorem Ij {u:TUnit} {p:List PStep} (h:kf p=false):dP u p = []:=by unfold dP;simp_all
theorem F8 {u:TUnit} (h:kf []=true):dP u [] = [u]:=by unfold dP;simp_all
theorem F9 {u:TUnit} {s:PStep} {r:List PStep} (h:kf (s::r)=true) (hb:m9 s=true):dP u (s::r)=gk r [u]:=by
 unfold dP;simp_all
theorem ww {u:TUnit} {s:PStep} {r:List PStep} (h:kf (s::r)=true) (hb:m9 s=false):dP u (s::r)=gk r (lQ s u):=by
 unfold dP;rw [h];show gk r (bif m9 s then [u] else (bx u).filter (bi s))=_
 rw [hb];rfl
def cn (s:PStep) (l:List TUnit):List TUnit:=l.flatMap fun x=>x.kids.filter (bi s)
section
variable {s : PStep} {l m r r1 X : List TUnit} {w w1 : TUnit} {n N : Nat} {rs0 : List PStep} {R at0 : List TUnit}
theorem IQ:cn s [] = []:=rfl
theorem wY:cn s (w::r)=w.kids.filter (bi s)++cn s r:=by grind [cn]
theorem Hh (rs:List PStep):gk (s::rs) l=gk rs (cn s l):=rfl
theorem Fv:dT (cn s l)≤dT l:=yO _ l
theorem fA (h:R=gk (s::rs0) l∧dT l≤N) (e:cn s []=cn s l):R=gk rs0 []∧dT []≤N:=⟨by rw [h.1,Hh,← e];rfl,by simp_all [l8]⟩
theorem fB (h:R=gk (s::rs0) l∧dT l≤N) (e:m++cn s []=cn s l):R=gk rs0 m∧dT m≤N:=by grind [IQ,Hh,Fv]
theorem gA (h:cn s (w1::r1)=X):w1.kids.filter (bi s)++cn s r1=X:=wY.symm.trans h
theorem gB (h:n=m.length∧m++cn s (w1::r1)=X∧m.length+dT (w1::r1)<N):n=m.length∧m++(w1.kids.filter (bi s)++cn s r1)=X∧m.length+(dT w1.kids+dT r1)<N:=⟨h.1,wY (s:=s) ▸ h.2.1,by grind [bc,iT]⟩
theorem Ye (h:(w::r).filter (bi s)++cn s r1=X) (q:bi s w=false):r.filter (bi s)++cn s r1=X:=by simp_all
theorem Yd (h:n=m.length∧m++((w::r).filter (bi s)++cn s r1)=X∧m.length+(dT (w::r)+dT r1)<N) (q:bi s w=false):n=m.length∧m++(r.filter (bi s)++cn s r1)=X∧m.length+(dT r+dT r1)<N:=⟨h.1,by simp_all,by grind [bc]⟩
theorem Yc (h:n=m.length∧m++((w::r).filter (bi s)++cn s r1)=X∧m.length+(dT (w::r)+dT r1)<N) (q:bi s w=true):n+1=(m++ [w]).length∧(m++ [w])++(r.filter (bi s)++cn s r1)=X∧(m++ [w]).length+(dT r+dT r1)<N:=⟨by simp_all,by simp_all,by grind [H0,bc]⟩
end
section
variable {p : PId} {u : TUnit} {i : Int} {l : List PId}
theorem NQ (hn:i=Int.ofNat (aD p u).length - 2) (h0:aB i 0=false) : [ae (gD (aD p u) i.toNat)]=oU p u (i - 1+1).toNat:=by
 have h0:=aL h0;simp only [aI] at hn;have e:(i - 1+1).toNat=i.toNat:=by omega
 rw [e,Ay p u (k:=i.toNat) (by omega),show i.toNat+1=(aD p u).length - 1 by omega,Ct,pI]
theorem G8 (h:l=oU p u (i+1).toNat) (hi:i+2≤(aD p u).length) (h0:aB i 0=false):l++ [ae (gD (aD p u) i.toNat)]=oU p u (i - 1+1).toNat:=by
 have h0:=aL h0;grind [Ay]
theorem RJ (h:l=oU p u (i+1).toNat) (hi : -1≤i) (h0:aB i 0=true):l=pn p u:=by
 have h0:=au h0;rw [h,show (i+1).toNat=0 by omega,DP]
theorem RW (hn:i=Int.ofNat (aD p u).length - 2) (h0:aB i 0=true):pn p u = []:=by
 have h0:=au h0;simp only [aI] at hn;rw [← DP];have:(aD p u).length - 1=0:=by omega
 grind [Ct]
end
theorem Js {s:PStep} {l m:List TUnit} (h:dV s l=m) (hm:m≠ []):l≠ []:=by grind [mC]
theorem Ur (l:List TUnit) {z:AV} (hz:z.top=0):aq (l.map aV++ [z])=0:=jN.2 fun x hx=>by grind [gO]
theorem oB {l x r:List TUnit} {w:TUnit} {j:Nat} (h1:l.drop j=x) (h2:x=w::r):nU w+dT r≤dT l:=by
 have e:l=l.take j++(w::r):=by grind [List.take_append_drop]
 grind [sx,bc]
end Go.Ev
namespace Go.Ev
open Go
def qX (l:List aP) (n:Int):Bool:=qW l && ax (aB (.ofNat l.length) n)
def AM (n:Int):Bool:=ax (aB n 0) && ax (aB 256 n)
theorem Ix {u:TUnit} (p:List PStep) (h:nU u≤2 ^ 11):(dP u p).length≤2 ^ 22:=by
 have key : ∀ (rs:List PStep) (l:List TUnit),dT (gk rs l)≤dT l:=by
  intro rs;induction rs with
  | nil=>intro l;exact ah _
  | cons s r ih=>grind [Hh,Fv]
 unfold dP;cases kf p with
 | false=>simp_all
 | true=>
  simp only [cond_true];cases p with
  | nil=>simp_all
  | cons s r=>
   simp only [];refine bH (xf _) (bH (key r _) ?_);cases m9 s with
   | true=>grind [bc,l8]
   | false=>
    simp only [cond_false];have h1:=Fw s u fun x hx=>dH hx
    have h2:nU u * nU u≤2 ^ 11 * 2 ^ 11:=Nat.mul_le_mul h h;exact bH h1 h2
theorem GV {u:TUnit} {p:List PStep} (h:dP u p = []):aC u p=(bL,7):=by grind [aC]
theorem GK {u x:TUnit} {p:List PStep} (h:dP u p = [x]):aC u p=(ae x,0):=by grind [aC]
theorem GJ {u x y:TUnit} {r:List TUnit} {p:List PStep} (h:dP u p=x::y::r):aC u p=(bL,8):=by grind [aC]
def wA (own:PId) (i:Int) (ok:Bool) (n:Int):PSpot × Int:=bif ok then (⟨own,i+n⟩,0) else (dC,9)
def Bs (e:Int) (sp:PSpot) (e2:Int):PSpot × Int:=bif ab e 0 then (bif ab e2 0 then (sp,0) else (dC,e2)) else (dC,e)
def nF (p q own:PId) (at_:Int) (ok c bs:Bool) (sp:PSpot) (e:Int):PSpot × Int:=
 bif ax ok || ((ax (bb q p) && c) || (bb q p && ax bs)) then (dC,9)
 else bif bb q p then (⟨own,at_⟩,0)
 else bif ab e 0 && (bb sp.id own && aB at_ sp.at_) then (⟨sp.id,sp.at_ - 1⟩,e) else (sp,e)
end Go.Ev
