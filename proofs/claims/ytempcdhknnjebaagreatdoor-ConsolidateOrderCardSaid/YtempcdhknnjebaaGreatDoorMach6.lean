/- An abstract machine for runs of the program, proved sound against the model: part 6. No conditions. -/
import Derived.Test.YtempcdhknnjebaaGreatDoorMach5
import Derived.Shelf.SortM.Plain
import Derived.Shelf.SortM.SortNone
import Derived.Shelf.SlSortCmp.NoneTotal
import Derived.Shelf.SlicesG.CompactI
import Derived.Lib.QuietBelow
import GoSem.ClaimJoined
import Derived.Calls
import Derived.RunT
import Derived.Below
import Derived.Shelf.Strings.FuncGrows
import Derived.Laws.RangeAny
import Derived.Lib.Join
import Derived.Lib.Repeat
import Derived.Lib.SlTrimSet
namespace Go.Ev
open Go Go.Sort Go.Proofs
section
variable {P : Program} {G : eg} {pl : Pl} {M : de} {h : AHeap} {w w' : World}
theorem si (hr:ct pl M h w) {id:Nat} {p:Place} {sz:Nat} {op:Bool} {ep:Nat} {xs xs':List AV} {c c':Array Value} {t:TypeId} (hp:pl id=some p) (hg:h.get id=some (.row sz op ep xs))
  (hb:w.heap[p.blk]? = some (.cells c t (0,0))) (hw:w'.heap[p.blk]? = some (.cells c' t (0,0))) (hcs:c'.size=c.size) (hlen:xs'.length=xs.length) (hel : ∀ x,x∈xs'→x.cells.length=sz∧Sc x)
  (hcell : ∀ i x j y,xs'[i]? = some x→x.cells[j]? = some y→VRel pl M y (c'.getD (i * sz+j) undef)) (hs:WSame w w') (hsz:w.heap.size≤w'.heap.size) (hk : ∀ b,b<w.heap.size→b≠p.blk→w'.heap[b]? = w.heap[b]?) :
  ct pl M (h.put id (.row sz op ep xs')) w'∧cO h pl M w (h.put id (.row sz op ep xs')) pl M w':=by
 have ho:=hr.obj id p _ hp hg;rw [hb] at ho;simp only [bf] at ho;obtain ⟨h1,h2,h3,h4,h5,h6,h7,h8⟩:=ho;have e:=xS (pl:=pl) hp;have:=ct.change (p':=p) (o':= .row sz op ep xs') hr hp hg (.inl rfl) hs hsz hk (.inl rfl) (vC.1 hw).1 (by
  rw [e,hw];simp only [bf];refine ⟨h1,h2,by omega,by omega,trivial,h6,fun e=>by simp_all,⟨?_,hel,fun i x j y q1 q2=>?_⟩⟩
  ·grind [cases InMem]
  simp_all)
 simp_all
variable {β : Type} [Inhabited β]
theorem qU {enc:β→Value} {blk off n:Nat} {d:Array β} {os:Array Obj} {c:Array Value} {t:TypeId} {fr:Nat × Nat} (hb:w.heap[blk]? = some (.cells c t fr)) :
  (grow (putRow enc (Sort.ahead w n) blk off d) os).heap[blk]? = some (.cells (putCells enc off d c) t fr):=by
 grind [grow,putRow,mapBlock,Sort.ahead,onCells]
theorem jT {enc:β→Value} {blk off n:Nat} {d:Array β} {os:Array Obj} {b:Nat} (hb:b<w.heap.size) (hne:b≠blk) :
  (grow (putRow enc (Sort.ahead w n) blk off d) os).heap[b]? = w.heap[b]?:=by
 simp only [grow,putRow,mapBlock,Sort.ahead];grind
theorem ng {enc:β→Value} {blk off n:Nat} {d:Array β} {os:Array Obj} : WSame w (grow (putRow enc (Sort.ahead w n) blk off d) os):=⟨rfl,rfl,rfl,Nat.le_add_right _ _⟩
theorem AF {enc:β→Value} {blk off n:Nat} {d:Array β} {os:Array Obj} : w.heap.size≤(grow (putRow enc (Sort.ahead w n) blk off d) os).heap.size:=by simp_all
theorem na {enc:β→Value} {d:Array β} {c:Array Value} {k:Nat} (hk:k<d.size) (hc:k<c.size):(putCells enc 0 d c).getD k undef=enc d[k]!:=by simp_all [putCells]
theorem pE (hr:ct pl M h w) {id ep len sz:Nat} {op:Bool} {cap:Option Nat} {xs:List AV} {x:Value} (hv:VRel pl M (.slice id ep 0 len cap) x) (hg:h.get id=some (.row sz op ep xs)) (hl:0<len) :
  ∃ p c t cap',pl id=some p∧w.heap[p.blk]? = some (.cells c t (0,0))∧x = .slice (some ⟨p.blk,0,none⟩) len cap'∧InMem pl M c 0 sz xs∧0<sz∧p.blk<w.heap.size:=by
 cases hv with
 | slice hp he hle hk ha=>
  rename_i cap' a p;have ho:=hr.obj id p _ hp hg;cases hb:w.heap[p.blk]? with
  | none=>grind [bf]
  | some ob=>
   rw [hb] at ho;cases ob <;> simp only [bf] at ho
   rename_i c t fr;obtain ⟨h1,h2,h3,h4,h5,h6,h7,h8⟩:=ho;subst h5;obtain ⟨k1,_⟩:=ha (by omega);have k2:a=⟨p.blk,0,none⟩:=by grind
   exact ⟨p,c,t,_,hp,hb,by rw [k2],h8,h6,(vC.1 hb).1⟩
def dt (zs:List Int):List Int:=zs.mergeSort fun x y=>decide (x≤y)
theorem kw (zs:List Int):(dt zs).Perm zs:=List.mergeSort_perm ..
theorem CC (zs:List Int):(dt zs).Pairwise (fun a b=>a≤b):=by
 have:=List.pairwise_mergeSort (le:=fun x y:Int=>decide (x≤y)) (by grind) (by grind) zs;exact this.imp (by simp)
theorem B0 {c:Array Value} {sz:Nat} {xs:List AV} (hm:InMem pl M c 0 sz xs) {i:Nat} {x:AV} (hx:xs[i]? = some x) {j:Nat} (hj:j<sz):i * sz+j<c.size∧∃ y,x.cells[j]? = some y∧VRel pl M y (c.getD (i * sz+j) undef):=by
 have h1:=hm.fit;have hi:=(gV.1 hx).1;have h2:=(hm.elem x (bm hx)).1;have h3:(i+1) * sz≤xs.length * sz:=ec _ hi;rw [je] at h3;refine ⟨by omega,x.cells[j],by simp_all,?_⟩;have:=hm.cell i x j _ hx (lx (by omega:j<x.cells.length));simp_all
theorem Ar {f:FuncId} (hE : ∀ vs w,(callFunc f vs).run P w = .ok (.enter f vs) w)
  (hC : ∀ (blk off cap:Nat) (zs:List Int) (w:World),Holds (Value.int .i64) w blk off zs.toArray→blk<w.heap.size→zs.length<4611686018427387904→
   Calls P f #[.slice (some ⟨blk,off,none⟩) zs.length cap] w fun e w'=>e = .returned (.tuple #[])∧∃ n os,w'=grow (putRow (Value.int .i64) (Sort.ahead w n) blk off (zs.mergeSort fun x y=>decide (x≤y)).toArray) os)
  {id ep:Nat} {op:Bool} {cap:Option Nat} (zs:List Int) (hg:h.get id=some (.row 1 op ep (zs.map ab))) (hz:0<zs.length) (hb:zs.length<4611686018427387904) :
  aG P G f [.slice id ep 0 zs.length cap] h (fun v h'=>v = .tuple []∧h'=h.put id (.row 1 op ep ((dt zs).map ab))):=by
 intro pl M w vs hG hr hv;obtain ⟨a,rfl,hv1⟩:=RZ hv;obtain ⟨p,c,t,cap',hp,hbl,rfl,hm,_,hlt⟩:=pE hr hv1 hg hz;have hcell : ∀ j z,zs[j]? = some z→j<c.size∧c.getD j undef = .int .i64 z:=by
  intro j z hj;have hx:(zs.map ab)[j]? = some (ab z):=by simp_all
  obtain ⟨q1,y,q2,q3⟩:=B0 hm hx (j:=0) (by omega);rw [Nat.mul_one,pJ] at q1 q3;simp [ab,AV.cells] at q2;subst q2;refine ⟨q1,?_⟩;cases hq:c.getD j undef <;> rw [hq] at q3 <;> cases q3
  rfl
 refine .inl ⟨hE _ _,Calls.mono (hC p.blk 0 cap' zs w (fun j hj=>?_) hlt hb) fun e w' ⟨he,n,os,hw⟩=>?_⟩
 ·have hj':j<zs.length:=by omega
  obtain ⟨q1,q2⟩:=hcell j zs[j] (lx hj');rw [f9];refine ⟨?_,?_⟩
  ·simp only [World.cell?,hbl];simp only [Option.isSome_none,gQ,if_false];rw [EW q1];simp_all
  grind [World.frozen?]
 ·refine ⟨.tuple #[], .tuple [],_,he,⟨rfl,rfl⟩,pl,M,qi,?_⟩;have hlen:(dt zs).length=zs.length:=(kw zs).length_eq;have hw1:w'.heap[p.blk]? = some (.cells (putCells (Value.int .i64) 0 (dt zs).toArray c) t (0,0)):=by rw [hw];exact qU hbl
  obtain ⟨r1,r2⟩:=si (w':=w') (xs':=(dt zs).map ab) hr hp hg hbl hw1 (by simp [putCells]) (by simp_all) (fun x hx=>by
    obtain ⟨z,_,rfl⟩:=jd.1 hx;exact ⟨rfl,fun y hy=>by simp [ab,AV.cells] at hy;subst hy;rfl⟩) (fun i x j y q1 q2=>by
    rw [po] at q1;obtain ⟨z,e1,rfl⟩:=EX.1 q1;have hi:=(gV.1 e1).1;cases j with
    | succ j=>grind [ab,AV.cells]
    | zero=>
     simp [ab,AV.cells] at q2;subst q2;rw [Nat.mul_one,pJ,na (by omega) (hcell i zs[i] (lx (by omega))).1];have:(dt zs).toArray[i]! = z:=by simp_all
     rw [this];exact .int _ _) (by grind [ng]) (by simp_all) (fun b hb hne=>by grind [jT])
  exact ⟨r1,r2,al _⟩
def bU (zs:List Int):List Int:=Lib.compact zs
theorem wC (zs:List Int):(bU zs).length≤zs.length:=by grind [bU,Lib.compact,Lib.compactUpTo]
theorem vf {f:FuncId} (hE : ∀ vs w,(callFunc f vs).run P w = .ok (.enter f vs) w)
  (hC : ∀ (blk off cap:Nat) (zs:List Int) (w:World),Holds (Value.int .i64) w blk off zs.toArray→zs.length≤9223372036854775807→zs.length≤cap→
   Calls P f #[.slice (some ⟨blk,off,none⟩) zs.length cap] w fun e w'=>e = .returned (.slice (some ⟨blk,off,none⟩) (Lib.compact zs).length cap)∧∃ q,w'=putRow (Value.int .i64) (Sort.ahead w q) blk off (Lib.compact zs++List.replicate (zs.length - (Lib.compact zs).length) 0).toArray)
  {id ep:Nat} {op:Bool} (zs:List Int) (hg:h.get id=some (.row 1 op ep (zs.map ab))) (hz:0<zs.length) (hb:zs.length<4611686018427387904) :
  aG P G f [.slice id ep 0 zs.length none] h (fun v h'=>v = .slice id ep 0 (bU zs).length none∧h'=h.put id (.row 1 op ep ((bU zs++List.replicate (zs.length - (bU zs).length) 0).map ab))):=by
 intro pl M w vs hG hr hv;obtain ⟨a,rfl,hv1⟩:=RZ hv;obtain ⟨p,c,t,cap',hp,hbl,rfl,hm,_,hlt⟩:=pE hr hv1 hg hz;have hcell : ∀ j z,zs[j]? = some z→j<c.size∧c.getD j undef = .int .i64 z:=by
  intro j z hj;have hx:(zs.map ab)[j]? = some (ab z):=by simp_all
  obtain ⟨q1,y,q2,q3⟩:=B0 hm hx (j:=0) (by omega);rw [Nat.mul_one,pJ] at q1 q3;simp [ab,AV.cells] at q2;subst q2;refine ⟨q1,?_⟩;cases hq:c.getD j undef <;> rw [hq] at q3 <;> cases q3
  rfl
 have hle:=wC zs;have hcap:zs.length≤cap':=by grind [cases VRel]
 generalize hnew:bU zs++List.replicate (zs.length - (bU zs).length) 0=ns;have hnl:ns.length=zs.length:=by grind
 refine .inl ⟨hE _ _,Calls.mono (hC p.blk 0 cap' zs w (fun j hj=>?_) (by omega) hcap) fun e w' ⟨he,n,hw⟩=>?_⟩
 ·have hj':j<zs.length:=by omega
  obtain ⟨q1,q2⟩:=hcell j zs[j] (lx hj');rw [f9];refine ⟨?_,?_⟩
  ·simp only [World.cell?,hbl];simp only [Option.isSome_none,gQ,if_false];rw [EW q1];simp_all
  grind [World.frozen?]
 ·have hw2:w'=grow (putRow (Value.int .i64) (Sort.ahead w n) p.blk 0 ns.toArray) #[]:=by rw [hw,grow_empty];congr 2
  have hrel:VRel pl M (.slice id ep 0 (bU zs).length none) (.slice (some ⟨p.blk,0,none⟩) (bU zs).length cap'):=by
   cases hv1 with
   | slice hp he hl hk ha=>
    refine .slice hp he (by omega) hk fun e=>?_
    grind
  refine ⟨_,_,_,he,⟨rfl,rfl⟩,pl,M,hrel,?_⟩;have hw1:w'.heap[p.blk]? = some (.cells (putCells (Value.int .i64) 0 ns.toArray c) t (0,0)):=by grind [qU]
  obtain ⟨r1,r2⟩:=si (w':=w') (xs':=ns.map ab) hr hp hg hbl hw1 (by simp [putCells]) (by simp_all) (fun x hx=>by
    obtain ⟨z,_,rfl⟩:=jd.1 hx;exact ⟨rfl,fun y hy=>by simp [ab,AV.cells] at hy;subst hy;rfl⟩) (fun i x j y q1 q2=>by
    rw [po] at q1;obtain ⟨z,e1,rfl⟩:=EX.1 q1;have hi:=(gV.1 e1).1;cases j with
    | succ j=>grind [ab,AV.cells]
    | zero=>
     simp [ab,AV.cells] at q2;subst q2;rw [Nat.mul_one,pJ,na (by omega) (hcell i zs[i] (lx (by omega))).1];have:ns.toArray[i]! = z:=by simp_all
     rw [this];exact .int _ _) (by grind [ng]) (by simp_all) (fun b hb hne=>by grind [jT])
  exact ⟨r1,r2,al _⟩
theorem CD {f:FuncId} (hE : ∀ vs w,(callFunc f vs).run P w = .ok (.enter f vs) w)
  (hC : ∀ (p:Option Addr) (cap:Nat) (w:World),Calls P f #[.slice p 0 cap] w fun e w'=>e = .returned (.tuple #[])∧w'=w):aP P G f [.nils] (.tuple []):=by
 intro h pl M w vs hG hr hv;obtain ⟨a,rfl,hv1⟩:=RZ hv;cases hv1
 exact .inl ⟨hE _ _,Calls.mono (hC none 0 w) fun e w' ⟨he,hw⟩=>⟨.tuple #[], .tuple [],h,he,⟨rfl,rfl⟩,pl,M,qi,by simp_all [StepF.refl]⟩⟩
theorem uG {f:FuncId} {g:Fn} (hE : ∀ vs w,(callFunc f vs).run P w = .ok (.enter f vs) w)
  (hC : ∀ (p:Option Addr) (cap:Nat) (fv:Value) (w:World),Calls P f #[.slice p 0 cap,fv] w fun e w'=>e = .returned (.tuple #[])∧w'=w):aP P G f [.nils, .func g [] []] (.tuple []):=by
 intro h pl M w vs hG hr hv;obtain ⟨a,b,rfl,hv1,hv2⟩:=Aq hv;cases hv1
 exact .inl ⟨hE _ _,Calls.mono (hC none 0 b w) fun e w' ⟨he,hw⟩=>⟨.tuple #[], .tuple [],h,he,⟨rfl,rfl⟩,pl,M,qi,by simp_all [StepF.refl]⟩⟩
def DQ {α:Type} (cmp:α→α→Int) (a b:α):Bool:=decide (cmp a b<0)
theorem As {f g:FuncId} {sz:Nat} (hGT:io G) (hE : ∀ vs w,(callFunc f vs).run P w = .ok (.enter f vs) w) (hg2 : ∀ args w,(callFunc g args).run P w = .ok (.enter g args) w)
  (hC : ∀ (m:Nat) (enc:Fin (m+1)→List Value) (cf:Fin (m+1)→Fin (m+1)→Int) (blk off cap:Nat) (d:Array (Fin (m+1))) (w:World),(∀ x,(enc x).length=sz)→(∀ x,∀ v∈enc x,v.oneCell'=true)→SWO (ltOf cf)→
   CmpLays P g #[] enc sz cf blk off d.size w→HoldsK enc sz w blk off d→blk<w.heap.size→d.size<4611686018427387904→
   Calls P f #[.slice (some ⟨blk,off,none⟩) d.size cap, .func (.func g) #[] #[]] w fun e w'=>e = .returned (.tuple #[])∧∃ d' n os,PermIn 0 d.size d d'∧SortedIn (ltOf cf) 0 d.size d'∧w'=sortWorldK enc sz w blk off n d' os)
  {α:Type} [Inhabited α] (enc:α→AV) (cmp:α→α→Int) (hO:SWO (DQ cmp)) (hag : ∀ a,∃ cs,enc a = .agg cs) (htop : ∀ a,(enc a).top=0)
  (l:List α) (hcmp : ∀ a,a∈l→∀ b,b∈l→aP P G g [enc a,enc b] (.int .i64 (cmp a b)))
  {oid ep:Nat} {op:Bool} {cap:Option Nat} (hg:h.get oid=some (.row sz op ep (l.map enc))) (hz:0<l.length) (hb:l.length<4611686018427387904) :
  aG P G f [.slice oid ep 0 l.length cap, .func (.func g) [] []] h (fun v h'=>∃ l':List α,(l'.Perm l∧l'.Pairwise fun a b=>DQ cmp b a=false)∧v = .tuple []∧h'=h.put oid (.row sz op ep (l'.map enc))):=by
 intro pl M w vs hG hr hv;obtain ⟨a,fv,rfl,hv1,hv2⟩:=Aq hv;have e2:=yf hv2;subst e2;obtain ⟨p,c,t,cap',hp,hbl,rfl,hm,hsz0,hlt⟩:=pE hr hv1 hg hz;obtain ⟨m,hm1⟩ : ∃ m,l.length=m+1:=⟨l.length - 1,by omega⟩
 have hfit:=hm.fit;rw [bI,f9,hm1] at hfit;have helem : ∀ i:Fin (m+1),(l.map enc)[i.1]? = some (enc l[i.1]!):=fun i=>by
  have:=i.2;rw [po,lx (by omega),getElem!_pos l i.1 (by omega)];rfl
 have hmul : ∀ i:Fin (m+1),i.1 * sz+sz≤(m+1) * sz:=fun i=>by have:=ec sz (Nat.succ_le_of_lt i.2);rwa [pu] at this
 generalize hcof:(fun i:Fin (m+1)=>(List.range sz).map fun j=>c.getD (i.1 * sz+j) undef)=cellsOf;have cl : ∀ i,(cellsOf i).length=sz:=fun i=>by rw [← hcof];simp
 have cg : ∀ i j,j<sz→(cellsOf i)[j]? = some (c.getD (i.1 * sz+j) undef):=fun i j hj=>by rw [← hcof];simp [hj]
 generalize hd:(Array.ofFn (n:=m+1) id)=d;have hds:d.size=m+1:=by rw [← hd];simp
 have hdg : ∀ j (hj:j<m+1),d[j]! = ⟨j,hj⟩:=fun j hj=>by rw [getElem!_pos d j (by omega)];subst hd;simp
 have hflat : ∀ (dk:Array (Fin (m+1))),dk.size=m+1→∀ i j,i<m+1→j<sz→(flatK cellsOf sz dk)[i * sz+j]! = c.getD ((dk[i]!).1 * sz+j) undef:=fun dk hdk i j hi hj=>by
  have h1:i * sz+j<dk.size * sz:=by have:=ec sz (Nat.succ_le_of_lt hi);rw [pu] at this;rw [hdk];omega
  rw [get_flatK cellsOf sz dk _ h1];have h2:(i * sz+j) / sz=i:=by rw [Nat.mul_comm,Nat.mul_add_div hsz0,Nat.div_eq_of_lt hj,pJ]
  have h3:(i * sz+j) % sz=j:=by rw [Nat.mul_comm,Nat.mul_add_mod,Nat.mod_eq_of_lt hj]
  rw [h2,h3,getElem!_pos _ j (by rw [cl];exact hj)];have:=cg (dk[i]!) j hj;rw [lx (by rw [cl];exact hj)] at this;simpa using this
 have hH:HoldsK cellsOf sz w p.blk 0 d:=by
  intro k hk;rw [size_flatK,hds] at hk;have hi:k / sz<m+1:=Nat.div_lt_of_lt_mul (by rw [Nat.mul_comm];exact hk);have hj:k % sz<sz:=Nat.mod_lt _ hsz0;have hk2:k / sz * sz+k % sz=k:=by rw [Nat.mul_comm];exact Nat.div_add_mod k sz
  have:=hflat d hds (k / sz) (k % sz) hi hj;rw [hdg _ hi,hk2] at this;rw [this,f9];have hkc:k<c.size:=by omega
  refine ⟨?_,by simp [World.frozen?,hbl]⟩;simp only [World.cell?,hbl];simp only [Option.isSome_none,gQ,if_false];rw [EW hkc];simp [Array.getD,hkc]
 have hrelE : ∀ (i:Fin (m+1)) cs,enc l[i.1]! = .agg cs→cs.length=sz∧(∀ y,y∈cs→cC y=true)∧∀ (j:Nat) (y:AV),cs[j]? = some y→VRel pl M y (c.getD (i.1 * sz+j) undef):=by
  intro i cs hcs;have h1:=hm.elem _ (bm (helem i));rw [hcs] at h1;refine ⟨h1.1,h1.2,fun j y hj=>?_⟩;have:=hm.cell i.1 _ j y (helem i) (by rw [hcs];exact hj);rwa [f9] at this
 have hone : ∀ i,∀ v∈cellsOf i,v.oneCell'=true:=by
  intro i v hvm;obtain ⟨j,hj,e⟩:=EZ hvm;rw [cl] at hj;have h1:=cg i j hj;rw [lx (by rw [cl];exact hj),e] at h1;obtain ⟨cs,hcs⟩:=hag l[i.1]!;obtain ⟨k1,k2,k3⟩:=hrelE i cs hcs;have:=k3 j cs[j] (lx (by omega));cases h1
  exact this.one (k2 _ (Cn _))
 have hmemL : ∀ i:Fin (m+1),l[i.1]!∈l:=fun i=>by
  have:=i.2;rw [getElem!_pos l i.1 (by omega)];exact Cn _
 have hlays:CmpLays P g #[] cellsOf sz (fun i j=>cmp l[i.1]! l[j.1]!) p.blk 0 d.size w:=by
  intro n os dk hdk x y;generalize hW:sortWorldK cellsOf sz w p.blk 0 n dk os=W;have hWo : ∀ b,b<w.heap.size→b≠p.blk→W.heap[b]? = w.heap[b]?:=fun b h1 h2=>by rw [← hW];exact jT h1 h2
  have hrW:ct (fun _=>none) M AHeap.none W:=pN (pl:=fun _=>none) (n:=0) (g:=AHeap.none.get) ⟨fun _ _ h=>by simp at h,fun _ _ _ h=>by simp at h,fun _ _ h=>by simp at h,fun _ _ _ _ h=>by simp at h,fun b c' hM=>by
   obtain ⟨t',fr,q⟩:=hr.imm b c' hM;refine ⟨t',fr,?_⟩;rw [hWo b (hr.memLt hM) (fun e=>by have:=hr.sep oid p hp;rw [← e,hM] at this;cases this)];exact q,fun _ _ h=>by simp at h⟩
  have hrel : ∀ i:Fin (m+1),VRel (fun _=>none) M (enc l[i.1]!) (.agg (cellsOf i).toArray):=by
   intro i;obtain ⟨cs,hcs⟩:=hag l[i.1]!;obtain ⟨k1,k2,k3⟩:=hrelE i cs hcs;have ht:=htop l[i.1]!;rw [hcs] at ht ⊢;refine .agg (by simp [cl,k1]) k2 fun j y hj=>?_
   have hj':j<sz:=by rw [← k1];exact (gV.1 hj).1
   have e:(cellsOf i).toArray.getD j undef=c.getD (i.1 * sz+j) undef:=by
    have:=cg i j hj';rw [gc,nD,this];rfl
   rw [e];exact (k3 j y hj).none (jF.1 ht y (bm hj))
  have hc:=hcmp _ (hmemL x) _ (hmemL y) AHeap.none (fun _=>none) M W #[.agg (cellsOf x).toArray, .agg (cellsOf y).toArray] (hG.none hGT) hrW ⟨rfl,fun j z hj=>by
   match j,hj with
   | 0,hj=>cases hj;exact hrel x
   | 1,hj=>cases hj;exact hrel y⟩
  rcases hc with ⟨h1,h2⟩ | ⟨cv,w',v,h',h1,h2,h3⟩
  ·refine Calls.mono h2 fun e w' ⟨cv,v,h',k1,k2,pl',M',k3,k4,k5,k6⟩=>?_
   obtain ⟨k2,_⟩:=k2;subst k2;cases k3
   refine ⟨k1,?_⟩;obtain ⟨q,hq⟩:=regrown_of_below (w:=W) (w':=w') ⟨k5.os,k5.tape,k5.out,k5.size,fun b hb=>k5.kept b hb fun id p h=>by simp at h⟩;refine ⟨w'.drawn - W.drawn,q.os,?_⟩;have hd1:w'.drawn=q.d:=by rw [hq];rfl
   have hd2:=k5.drawn;have:redrawn W q.d=W.drewN (w'.drawn - W.drawn):=by
    show ({ W with drawn:=q.d } : World) = { W with drawn:=W.drawn+(w'.drawn - W.drawn) }
    congr 1;omega
   rw [← this];exact hq
  ·rw [hg2] at h1;cases h1
 refine .inl ⟨hE _ _,?_⟩;have hcall:=hC m cellsOf (fun i j=>cmp l[i.1]! l[j.1]!) p.blk 0 cap' d w cl hone ⟨fun x=>hO.irrefl _,fun x y z=>hO.trans _ _ _,fun x y z=>hO.ntrans _ _ _⟩ hlays hH hlt (by omega);rw [show d.size=l.length by omega] at hcall;refine Calls.mono hcall fun e w' ⟨he,d',n,os,hP,hS,hw⟩=>?_
 obtain ⟨hp1,_,hp3⟩:=hP;have hd's:d'.size=m+1:=by omega
 have hperm:d'.toList.Perm d.toList:=by
  have e1:d'.extract 0 l.length=d':=by rw [show l.length=d'.size by omega];exact Array.extract_size
  have e2:d.extract 0 l.length=d:=by rw [show l.length=d.size by omega];exact Array.extract_size
  rwa [e1,e2] at hp3
 have hdl:d.toList.map (fun i=>l[i.1]!)=l:=by
  apply List.ext_getElem?;intro i;by_cases hi:i<l.length
  ·rw [po,Array.getElem?_toList,EW (by omega),lx hi];have:=hdg i (by omega);rw [getElem!_pos d i (by omega)] at this;rw [this];show some (l[i]!)=some l[i]
   rw [getElem!_pos l i hi]
  ·rw [List.getElem?_eq_none (by simp;omega),List.getElem?_eq_none (by omega)]
 have hl':(d'.toList.map (fun i=>l[i.1]!)).length=l.length:=by simp;omega
 refine ⟨.tuple #[], .tuple [],_,he,⟨d'.toList.map (fun i=>l[i.1]!),⟨?_,?_⟩,rfl,rfl⟩,pl,M,qi,?_⟩
 ·have:=hperm.map (fun i=>l[i.1]!);rwa [hdl] at this
 ·rw [I2];intro i j hi hj hij;have hi':i<d'.size:=by simpa using hi
  have hj':j<d'.size:=by simpa using hj
  have:=hS i j (bE _) hij (by omega);rw [getElem!_pos d' i hi',getElem!_pos d' j hj'] at this;simpa [DQ,ltOf] using this
 ·have hw1:w'.heap[p.blk]? = some (.cells (putCells id 0 (flatK cellsOf sz d') c) t (0,0)):=by rw [hw];exact qU hbl
  obtain ⟨r1,r2⟩:=si (w':=w') (xs':=(d'.toList.map (fun i=>l[i.1]!)).map enc) hr hp hg hbl hw1 (by simp [putCells]) (by simp;omega) (fun x hx=>by
    obtain ⟨z,h1,rfl⟩:=jd.1 hx;obtain ⟨i,_,rfl⟩:=jd.1 h1;exact hm.elem _ (bm (helem i))) (fun i x j y q1 q2=>by
    rw [po,po,Array.getElem?_toList] at q1;obtain ⟨z,e1,rfl⟩:=EX.1 q1;obtain ⟨k,e2,rfl⟩:=EX.1 e1;have hi:i<d'.size:=(vC.1 e2).1;obtain ⟨cs,hcs⟩:=hag l[k.1]!;obtain ⟨k1,k2,k3⟩:=hrelE k cs hcs;rw [hcs] at q2;have hj:j<sz:=by rw [← k1];exact (gV.1 q2).1
    have hb1:i * sz+j<(m+1) * sz:=by have:=ec sz (Nat.succ_le_of_lt (show i<m+1 by omega));rw [pu] at this;omega
    rw [na (by rw [size_flatK,hd's];exact hb1) (by omega)];have:=hflat d' hd's i j (by omega) hj;have e3:d'[i]! = k:=by rw [getElem!_pos d' i hi];rw [EW hi] at e2;simpa using e2
    rw [e3] at this;show VRel pl M y (flatK cellsOf sz d')[i * sz+j]!
    rw [this];exact k3 j y q2) (by rw [hw];exact ng) (by rw [hw];exact AF) (fun b hb hne=>by rw [hw];exact jT hb hne)
  exact ⟨r1,r2,al _⟩
end
end Go.Ev
namespace Go.Ev
open Go
theorem xC (a b:Int):ar (jB a b) 0=ar a b:=by
 unfold jB;cases h:ar a b with
 | true=>rfl
 | false=>cases h2:ar b a <;> rfl
noncomputable def np (l:List PSpan) (d:Int):Nat:=(l.takeWhile fun s=>ar s.from_ d).length
theorem Do (l:List PSpan) (d:Int):np l d≤l.length:=by
 induction l with
 | nil=>simp [np]
 | cons a r ih=>grind [np,List.takeWhile_cons]
def rp (l:List PSpan):Prop:=l.Pairwise fun a b=>a.from_≤b.from_
theorem z8 {d:Int} : ∀ {l:List PSpan},rp l→∀ k,k<l.length→(ar (gD l k).from_ d=true↔k<np l d)
 | [],_,k,h=>by simp_all
 | a::r,hs,k,h=>by
  obtain ⟨h1,h2⟩:=kW.1 hs;unfold np;rw [List.takeWhile_cons];cases q:ar a.from_ d with
  | true=>
   simp only [if_true,cH];cases k with
   | zero=>grind [gD]
   | succ k=>
    have:=z8 (d:=d) h2 k (by simp_all);rw [show gD (a::r) (k+1)=gD r k from rfl,this];grind [np]
  | false=>
   simp only [gQ,if_false,gy,pW,iff_false,Bool.not_eq_true];have hd:=aB q;grind [iw,lp]
noncomputable def IJ (l:List PSpan) (d:Int):Bool:=ar (Int.ofNat (np l d)) (Int.ofNat l.length) && ae (jB (gD l (np l d)).from_ d) 0
theorem Nc {l:List PSpan} (h:l.Pairwise fun a b=>a.to<b.from_) (h2 : ∀ s,s∈l→s.from_<s.to):rp l:=by
 induction l with
 | nil=>exact .nil
 | cons a r ih=>
  obtain ⟨h3,h4⟩:=kW.1 h;refine kW.2 ⟨fun b hb=>?_,ih h4 fun s hs=>h2 s (fW _ hs)⟩;grind
structure NrmS (l:List PSpan):Prop where
 gap:l.Pairwise fun a b=>a.to<b.from_
 ok : ∀ s,s∈l→0≤s.from_∧s.from_<s.to∧s.to≤1048577
theorem NrmS.sort {l:List PSpan} (h:NrmS l):rp l:=Nc h.gap fun s hs=>(h.ok s hs).2.1
theorem HW : ∀ {l:List PSpan} {b:Int},l.Pairwise (fun a b=>a.to<b.from_)→(∀ s,s∈l→b≤s.from_∧s.from_<s.to∧s.to≤1048577)→b≤1048577→Int.ofNat l.length≤1048577 - b
 | [],b,_,_,hb=>by simp_all
 | a::r,b,h,h2,hb=>by
  obtain ⟨h3,h4⟩:=kW.1 h;have h5:=h2 a (fU ..);have:=HW (l:=r) (b:=b+1) h4 (fun s hs=>by grind) (by omega);grind
theorem NrmS.len {l:List PSpan} (h:NrmS l):l.length≤1048577:=by
 have:=HW (b:=0) h.gap h.ok (by omega);grind
noncomputable def iz (l:List PSpan) (d:Int):Bool:=IJ l d || (ar 0 (Int.ofNat (np l d)) && ar d (gD l (np l d - 1)).to)
theorem C7 (a b:Int):BG a b=max a b:=by
 unfold BG;cases h:ar a b with
 | true=>have:=au h;grind
 | false=>have:=aB h;grind
theorem H3 (a b:Int):LO a b=min a b:=by
 unfold LO;cases h:ar b a with
 | true=>have:=au h;grind
 | false=>have:=aB h;grind
noncomputable abbrev UC (s:PSpan):PSpan:=⟨BG s.from_ 0,LO s.to 1048577⟩
noncomputable abbrev Wf (s:PSpan):Bool:=ar (BG s.from_ 0) (LO s.to 1048577)
noncomputable def jU:List PSpan→List PSpan
 | []=> []
 | s::r=>match Wf s with | true=>UC s::jU r | false=>jU r
theorem uU {s:PSpan} {r:List PSpan} (h:Wf s=true):jU (s::r)=UC s::jU r:=by grind [jU]
theorem uq {s:PSpan} {r:List PSpan} (h:Wf s=false):jU (s::r)=jU r:=by grind [jU]
theorem Cy : ∀ (l:List PSpan),(jU l).length≤l.length
 | []=>by simp [jU]
 | s::r=>by
  have:=Cy r;cases h:Wf s with
  | true=>grind [uU]
  | false=>grind [uq]
theorem AQ : ∀ {l:List PSpan} {s:PSpan},s∈jU l→0≤s.from_∧s.from_<s.to∧s.to≤1048577
 | a::r,s,hs=>by
  cases h:Wf a with
  | true=>
   rw [uU h] at hs;rcases fj.1 hs with e | e
   ·subst e;have h2:=au h;grind [C7,H3]
   ·exact AQ e
  | false=>rw [uq h] at hs;exact AQ hs
def memB (l:List PSpan) (d:Int):Bool:=l.any fun s=>decide (s.from_≤d∧d<s.to)
def Ni (d:Int):Bool:=decide (0≤d∧d<1048577)
theorem me (d:Int):memB [] d=false:=rfl
theorem ez (a:PSpan) (l:List PSpan) (d:Int):memB (a::l) d=(decide (a.from_≤d∧d<a.to) || memB l d):=rfl
theorem yN (l r:List PSpan) (d:Int):memB (l++r) d=(memB l d || memB r d):=by simp [memB]
theorem jV {l:List PSpan} {d:Int} : memB l d=true↔∃ s,s∈l∧s.from_≤d∧d<s.to:=by simp [memB]
theorem LS {l r:List PSpan} (h:l.Perm r) (d:Int):memB l d=memB r d:=by
 rw [Co,jV,jV];grind
theorem Cv : ∀ (l:List PSpan) (d:Int),memB (jU l) d=(Ni d && memB l d)
 | [],d=>by simp [jU,memB]
 | a::r,d=>by
  have ih:=Cv r d;have e : ∀ b:Bool,(b=decide (0≤d∧d<1048577∧a.from_≤d∧d<a.to))→(b || (Ni d && memB r d))=(Ni d && memB (a::r) d):=fun b hb=>by grind [ez,Ni]
  cases h:Wf a with
  | true=>
   rw [uU h,ez,ih];refine e _ ?_;simp only [C7,H3];grind
  | false=>
   rw [uq h,ih];have h2:=aB h;simp only [C7,H3] at h2;grind
theorem NrmS.tail {a:PSpan} {r:List PSpan} (h:NrmS (a::r)):NrmS r:=⟨(kW.1 h.gap).2,fun s hs=>h.ok s (fW _ hs)⟩
theorem NrmS.low {a x:PSpan} {r:List PSpan} (h:NrmS (a::r)) (hx:x∈r):a.to<x.from_:=(kW.1 h.gap).1 x hx
theorem NrmS.head {a:PSpan} {r:List PSpan} (h:NrmS (a::r)):0≤a.from_∧a.from_<a.to∧a.to≤1048577:=h.ok a (fU ..)
theorem xh:NrmS []:=⟨.nil,fun s h=>by grind⟩
theorem qt {a:PSpan} {r:List PSpan} (h:NrmS (a::r)):memB (a::r) a.from_=true:=by grind [ez,cases NrmS]
theorem FW {a:PSpan} {r:List PSpan} (h:NrmS (a::r)) {d:Int} (hd:memB (a::r) d=true):a.from_≤d:=by
 obtain ⟨s,h1,h2,h3⟩:=jV.1 hd;rcases fj.1 h1 with e | e
 ·simp_all
 ·have:=h.low e;grind [cases NrmS]
theorem O8 {a:PSpan} {r:List PSpan} (h:NrmS (a::r)):memB (a::r) a.to=false:=by
 cases q:memB (a::r) a.to with
 | false=>rfl
 | true=>
  obtain ⟨s,h1,h2,h3⟩:=jV.1 q;rcases fj.1 h1 with e | e
  ·simp_all
  ·have:=h.low e;omega
theorem FX {a:PSpan} {r:List PSpan} (h:NrmS (a::r)) (d:Int):memB r d=(decide (a.to≤d) && memB (a::r) d):=by
 rw [ez];by_cases h1:a.to≤d
 ·grind
 ·have:memB r d=false:=by
   cases q:memB r d with
   | false=>rfl
   | true=>
    obtain ⟨s,h2,h3,h4⟩:=jV.1 q;have:=h.low h2;omega
  grind
theorem yD : ∀ {r s:List PSpan},NrmS r→NrmS s→(∀ d,memB r d=memB s d)→r=s
 | [], [],_,_,_=>rfl
 | [],b::s,_,hs,h=>by grind [qt,me]
 | a::r, [],hr,_,h=>by grind [qt,me]
 | a::r,b::s,hr,hs,h=>by
  have h1:b.from_≤a.from_:=FW hs (by grind [qt]);have h2:a.from_≤b.from_:=FW hr (by grind [qt]);have ha:=hr.head;have hb:=hs.head;have h3 : ¬ a.to<b.to:=fun q=>by grind [ez,O8]
  have h4 : ¬ b.to<a.to:=fun q=>by grind [ez,O8]
  have e:a=b:=by
   obtain ⟨a1,a2⟩:=a;obtain ⟨b1,b2⟩:=b;grind
  subst e;rw [yD hr.tail hs.tail fun d=>by rw [FX hr,FX hs,h]]
def vu (f:Int→Bool) (d:Int) (l:List PSpan):List PSpan:=match f d with
 | false=>l
 | true=>match l with
  | []=> [⟨d,d+1⟩]
  | s::r=>if s.from_=d+1 then ⟨d,s.to⟩::r else ⟨d,d+1⟩::s::r
def v8 (f:Int→Bool):Nat→List PSpan
 | 0=> []
 | k+1=>vu f (1048577 - Int.ofNat (k+1)) (v8 f k)
theorem Nk {f:Int→Bool} {d:Int} {l:List PSpan} (h0:0≤d) (h1:d+1≤1048577) (hl:NrmS l) (hf : ∀ s,s∈l→d+1≤s.from_) :
  NrmS (vu f d l)∧(∀ s,s∈vu f d l→d≤s.from_)∧∀ e,memB (vu f d l) e=((decide (e=d) && f e) || memB l e):=by
 unfold vu;cases hfd:f d with
 | false=>grind
 | true=>
  match l,hl,hf with
  | [],_,_=>
   refine ⟨⟨by simp,fun s hs=>by grind⟩,fun s hs=>by simp_all,fun e=>?_⟩;simp only [ez,me,Bool.or_false];grind
  | s::r,hl,hf=>
   have hs:=hl.head;have hs2:=hf s (fU ..);simp only [];by_cases q:s.from_=d+1
   ·rw [if_pos q];refine ⟨⟨kW.2 ⟨fun x hx=>hl.low hx,hl.tail.gap⟩,fun x hx=>?_⟩,fun x hx=>?_,fun e=>?_⟩
    ·grind [cases NrmS]
    ·grind
    ·simp only [ez];grind
   ·rw [if_neg q];refine ⟨⟨kW.2 ⟨fun x hx=>?_,hl.gap⟩,fun x hx=>?_⟩,fun x hx=>?_,fun e=>?_⟩
    ·have:=hf x hx;rcases fj.1 hx with e | e
     ·grind
     ·have:=hl.low e;grind
    ·rcases fj.1 hx with e | e
     ·grind
     ·exact hl.ok x e
    ·grind
    ·rw [ez];grind
theorem EI (f:Int→Bool) : ∀ k,k≤1048577→NrmS (v8 f k)∧(∀ s,s∈v8 f k→1048577 - Int.ofNat k≤s.from_)∧∀ e,memB (v8 f k) e=(decide (1048577 - Int.ofNat k≤e∧e<1048577) && f e)
 | 0,_=>by
  refine ⟨xh,fun s h=>(by cases h),fun e=>?_⟩;have:decide (1048577 - Int.ofNat 0≤e∧e<1048577)=false:=by simp_all
  rw [this];rfl
 | k+1,hk=>by
  obtain ⟨h1,h2,h3⟩:=EI f k (by omega);simp only [aL] at *;have:=Nk (f:=f) (d:=1048577 - ((k+1:Nat):Int)) (l:=v8 f k) (by omega) (by omega) h1 (fun s hs=>by grind);have h5:v8 f (k+1)=vu f (1048577 - ((k+1:Nat):Int)) (v8 f k):=by grind [v8]
  grind
theorem PQ (f:Int→Bool) : ∃ l:List PSpan,NrmS l∧∀ d,memB l d=(Ni d && f d):=by
 obtain ⟨h1,_,h3⟩:=EI f 1048577 (al _);exact ⟨_,h1,fun d=>by simp_all [Ni]⟩
noncomputable def nf (f:Int→Bool):List PSpan:=Classical.choose (PQ f)
theorem yF (f:Int→Bool):NrmS (nf f):=(Classical.choose_spec (PQ f)).1
theorem HT (f:Int→Bool) (d:Int):memB (nf f) d=(Ni d && f d):=(Classical.choose_spec (PQ f)).2 d
theorem PZ {f:Int→Bool} {r:List PSpan} (h:NrmS r) (hm : ∀ d,memB r d=(Ni d && f d)):r=nf f:=yD h (yF f) fun d=>by grind [HT]
theorem PX {f g:Int→Bool} (h : ∀ d,Ni d=true→f d=g d):nf f=nf g:=PZ (yF f) fun d=>by
 rw [HT];grind
theorem Sp {l:List PSpan} (h:NrmS l):l=nf (memB l):=PZ h fun d=>by
 cases q:memB l d with
 | false=>simp_all
 | true=>
  obtain ⟨s,h1,h2,h3⟩:=jV.1 q;have:=h.ok s h1;have:Ni d=true:=by unfold Ni;grind
  simp_all
theorem Ct {α:Type} [Inhabited α] {l:List α} {n:Nat} (h:n<l.length):l.take (n+1)=l.take n++ [gD l n]:=by grind [List.take_add_one,gD]
theorem De {α:Type} [Inhabited α] {l:List α} {n:Nat} (h:n<l.length):l.drop n=gD l n::l.drop (n+1):=by grind [List.drop_eq_getElem_cons,gD]
theorem sR {α:Type} {l:List α} {n m:Nat} {x:α} (h:n≤m):(l.set m x).take n=l.take n:=by
 apply List.ext_getElem?;grind
theorem P4 {α:Type} [Inhabited α] {l:List α} {i k:Nat} {x:α} (h:i<l.length):gD (l.set i x) k=if k=i then x else gD l k:=by
 unfold gD List.getD;grind
theorem rp.at {l:List PSpan} (h:rp l) {i k:Nat} (hik:i≤k) (hk:k<l.length):(gD l i).from_≤(gD l k).from_:=by
 rcases fJ i k with q | q
 ·have:=I2.1 h i k (by omega) hk q;grind [gD]
 grind
structure MergeI (l cur:List PSpan) (n i:Nat):Prop where
 len:cur.length=l.length
 le:n≤i
 il:i≤l.length
 pos:0<i→0<n
 rest : ∀ k,i≤k→k<l.length→gD cur k=gD l k
 gap : ∀ j k,j<k→k<n→(gD cur j).to<(gD cur k).from_
 ok : ∀ k,k<n→0≤(gD cur k).from_∧(gD cur k).from_<(gD cur k).to∧(gD cur k).to≤1048577
 last:0<n→∀ k,i≤k→k<l.length→(gD cur (n - 1)).from_≤(gD l k).from_
 mem : ∀ d,(memB (cur.take n) d || memB (l.drop i) d)=memB l d
theorem MergeI.start (l:List PSpan):MergeI l l 0 0:=⟨rfl,al _,bE _,fun h=>absurd h (vD _),fun _ _ _=>rfl,fun _ _ _ h=>absurd h (pW _),fun _ h=>absurd h (pW _),fun h=>absurd h (vD _),fun d=>by simp [memB]⟩
theorem MergeI.copy {l cur:List PSpan} {n i:Nat} (h:MergeI l cur n i) (hi:i<l.length) (hs:rp l) (hok : ∀ k,k<l.length→0≤(gD l k).from_∧(gD l k).from_<(gD l k).to∧(gD l k).to≤1048577)
  (hn:n=0∨(gD cur (n - 1)).to<(gD cur i).from_):MergeI l (cur.set n (gD cur i)) (n+1) (i+1):=by
 rw [h.rest i (al _) hi] at hn ⊢;have hl:=h.le;have hcl:=h.len;have hg : ∀ k,gD (cur.set n (gD l i)) k=if k=n then gD l i else gD cur k:=fun k=>P4 (by omega)
 refine ⟨by simp_all,by omega,by omega,fun _=>by omega,fun k h1 h2=>?_,fun j k h1 h2=>?_,fun k h1=>?_,fun _ k h1 h2=>?_,fun d=>?_⟩
 ·grind [cases MergeI]
 ·rw [hg,hg,if_neg (by omega)];by_cases e:k=n
  ·rw [if_pos e];rcases hn with hn | hn
   ·omega
   ·by_cases e2:j=n - 1
    ·simp_all
    ·have h3:=h.gap j (n - 1) (by omega) (by omega);grind [cases MergeI]
  ·grind [cases MergeI]
 ·rw [hg];by_cases e:k=n
  ·simp_all
  ·grind [cases MergeI]
 ·rw [hg,if_pos (by omega)];exact hs.at (by omega) h2
 ·rw [Ct (by grind),hg,if_pos rfl,sR (al _),yN,← h.mem d,De hi,ez,ez,me];grind
theorem MergeI.join {l cur:List PSpan} {n i:Nat} (h:MergeI l cur n i) (hi:i<l.length) (hs:rp l) (hok : ∀ k,k<l.length→0≤(gD l k).from_∧(gD l k).from_<(gD l k).to∧(gD l k).to≤1048577)
  (hn:0<n) (hle:(gD cur i).from_≤(gD cur (n - 1)).to) (x:Int) (hx:x=BG (gD cur (n - 1)).to (gD cur i).to):MergeI l (cur.set (n - 1) ⟨(gD cur (n - 1)).from_,x⟩) n (i+1):=by
 rw [h.rest i (al _) hi] at hle;rw [h.rest i (al _) hi,C7] at hx;have hl:=h.le;have hcl:=h.len;have hg : ∀ k,gD (cur.set (n - 1) ⟨(gD cur (n - 1)).from_,x⟩) k=if k=n - 1 then ⟨(gD cur (n - 1)).from_,x⟩ else gD cur k:=fun k=>P4 (by omega)
 have h4:=h.ok (n - 1) (by omega);have h5:=hok i hi;have h6:=h.last hn i (al _) hi;refine ⟨by simp_all,by omega,by omega,fun _=>hn,fun k h1 h2=>?_,fun j k h1 h2=>?_,fun k h1=>?_,fun _ k h1 h2=>?_,fun d=>?_⟩
 ·grind [cases MergeI]
 ·rw [hg,hg,if_neg (by omega)];by_cases e:k=n - 1
  ·grind [cases MergeI]
  ·grind [cases MergeI]
 ·rw [hg];by_cases e:k=n - 1
  ·grind
  ·grind [cases MergeI]
 ·grind [cases MergeI]
 ·obtain ⟨m,rfl⟩ : ∃ m,n=m+1:=⟨n - 1,by omega⟩
  simp only [Nat.add_sub_cancel] at *;rw [Ct (by grind),hg,if_pos rfl,sR (al _),yN,← h.mem d,De hi,ez (gD l i),Ct (by omega),yN,ez,ez,me,Bool.or_false,Bool.or_false];grind
theorem MergeI.nrm {l cur:List PSpan} {n i:Nat} (h:MergeI l cur n i):NrmS (cur.take n):=by
 have hl:=h.le;have hcl:=h.len;have hil:=h.il;have hlen:(cur.take n).length=n:=by grind
 have hg : ∀ k (hk:k<(cur.take n).length),(cur.take n)[k]=gD cur k:=fun k hk=>by rw [List.getElem_take];unfold gD List.getD;grind
 refine ⟨?_,fun s hs=>?_⟩;all_goals grind [List.pairwise_iff_getElem,List.getElem_of_mem,cases MergeI]
theorem MergeI.done {l cur:List PSpan} {n i:Nat} (h:MergeI l cur n i) (hi:l.length≤i) (d:Int):memB (cur.take n) d=memB l d:=by rw [← h.mem d,EQ hi,me,Bool.or_false]
theorem Q0 {l l':List PSpan} (hp:l'.Perm (jU l)) : ∀ k,k<l'.length→0≤(gD l' k).from_∧(gD l' k).from_<(gD l' k).to∧(gD l' k).to≤1048577:=fun k hk=>AQ (hp.mem_iff.1 (iw hk))
noncomputable def iN (l:List PSpan):List PSpan:=nf (memB l)
theorem FK {l r:List PSpan} (h:NrmS r) (hm : ∀ d,memB r d=memB (jU l) d):r=iN l:=PZ h fun d=>by grind [Cv]
theorem LL {l:List PSpan} (h:jU l = []) : []=iN l:=FK xh fun d=>by grind
end Go.Ev
namespace Go.Ev
open Go
theorem Iu {zs:List Int} (hs:zs.Pairwise fun a b=>a≤b):(bU zs).Pairwise (fun a b=>a<b)∧∀ z,z∈bU zs↔z∈zs:=by
 generalize hd:zs.toArray=d;have hsz:d.size=zs.length:=by grind
 have hx : ∀ j (hj:j<zs.length),d[j]! = zs[j]:=fun j hj=>by grind
 have mono : ∀ i j,i≤j→j<zs.length→d[i]!≤d[j]!:=fun i j hij hj=>by
  rcases fJ i j with q | q
  ·rw [hx i (by omega),hx j hj];exact I2.1 hs i j (by omega) hj q
  grind
 have key : ∀ m,m≤zs.length→(Lib.compactUpTo d m).Pairwise (fun a b=>a<b)∧(∀ z,z∈Lib.compactUpTo d m→∃ j,j<m∧z=d[j]!)∧∀ j,j<m→d[j]!∈Lib.compactUpTo d m:=by
  intro m;induction m with
  | zero=>simp_all [Lib.compactUpTo]
  | succ m ih=>
   intro hm;obtain ⟨h1,h2,h3⟩:=ih (by omega);rw [Lib.compactUpTo_succ];cases hk:Lib.keeps d m with
   | true=>
    simp only [if_true];have hk':m=0∨d[m]!≠d[m - 1]!:=by grind [Lib.keeps]
    refine ⟨List.pairwise_append.2 ⟨h1,by simp,fun a ha b hb=>?_⟩,fun z hz=>?_,fun j hj=>?_⟩
    ·obtain ⟨j,hj,rfl⟩:=h2 a ha;have hb:b=d[m]!:=by simp_all
     subst hb;have e1:=mono j (m - 1) (by omega) (by omega);have e2:=mono (m - 1) m (by omega) (by omega);omega
    all_goals grind
   | false=>
    simp only [gQ,if_false,eX];have hk' : ¬ (m=0∨d[m]!≠d[m - 1]!):=by grind [Lib.keeps]
    grind
 obtain ⟨h1,h2,h3⟩:=key zs.length (al _);have e:bU zs=Lib.compactUpTo d zs.length:=by grind [bU,Lib.compact]
 rw [e];refine ⟨h1,fun z=>⟨fun hz=>?_,fun hz=>?_⟩⟩
 ·grind
 ·obtain ⟨j,hj,rfl⟩:=EZ hz;simp_all
theorem NrmS.at {l:List PSpan} (h:NrmS l) {j k:Nat} (hjk:j<k) (hk:k<l.length):(gD l j).to<(gD l k).from_:=by
 have:=I2.1 h.gap j k (by omega) hk hjk;grind [gD]
theorem NrmS.okAt {l:List PSpan} (h:NrmS l) {k:Nat} (hk:k<l.length):0≤(gD l k).from_∧(gD l k).from_<(gD l k).to∧(gD l k).to≤1048577:=h.ok _ (iw hk)
theorem SH {l:List PSpan} {d:Int} : memB l d=true↔∃ k,k<l.length∧(gD l k).from_≤d∧d<(gD l k).to:=by
 rw [jV];constructor
 ·rintro ⟨s,h1,h2⟩
  obtain ⟨k,hk,e⟩:=EZ h1;have:gD l k=s:=by grind [gD]
  grind
 grind [iw]
theorem Ck {a b:Int} : ae (jB a b) 0=true↔a=b:=by
 unfold jB;cases h:ar a b with
 | true => have:=au h;constructor
           ·intro h;cases h
           omega
 | false=>
  have:=aB h;cases h2:ar b a with
  | true => have:=au h2;constructor
            ·intro h;cases h
            omega
  | false=>have:=aB h2;exact ⟨fun _=>by omega,fun _=>rfl⟩
theorem SG {l:List PSpan} (h:NrmS l) (d:Int):iz l d=memB l d:=by
 have hi:=z8 (d:=d) h.sort;have hc:=Do l d;rw [Co,SH];unfold iz IJ;simp only [sr,bV];constructor
 ·rintro (⟨h1,h2⟩ | ⟨h1,h2⟩)
  ·have h1:=au h1;simp only [aL] at h1;have h2:=Ck.1 h2;have:=h.okAt (k:=np l d) (by omega);grind
  ·have h1:=au h1;have h2:=au h2;simp only [aL] at h1;have h3:=au ((hi (np l d - 1) (by omega)).2 (by omega));grind
 ·rintro ⟨k,hk,h1,h2⟩
  by_cases e:(gD l k).from_=d
  ·left;have e1 : ¬ k<np l d:=fun q=>by have:=au ((hi k hk).2 q);omega
   have e2 : ¬ np l d<k:=fun q=>by
    have h3:=h.at q hk;have h4:=h.okAt (k:=np l d) (by omega);grind [nQ]
   have e3:np l d=k:=by omega
   rw [e3];exact ⟨nQ (by simp_all),Ck.2 e⟩
  ·right;have e1:k<np l d:=(hi k hk).1 (nQ (by omega));have e2 : ¬ k+1<np l d:=fun q=>by
    have h3:=h.at (j:=k) (k:=k+1) (by omega) (by omega);have:=au ((hi (k+1) (by omega)).2 q);omega
   grind [nQ]
def oT (l:List PSpan):List Int:=l.flatMap fun s=> [s.from_,s.to]
theorem CU (s:PSpan) (r:List PSpan):oT (s::r) = [s.from_,s.to]++oT r:=by simp [oT]
theorem j6 : ∀ (l:List PSpan),(oT l).length=2 * l.length
 | []=>rfl
 | s::r=>by rw [CU];simp [j6 r];omega
theorem Ga {l:List PSpan} {s:PSpan} (h:s∈l):s.from_∈oT l∧s.to∈oT l:=by
 unfold oT;grind
def jH (g:Int→Bool):List Int→List PSpan
 | []=> []
 | a::r=>match r with
  | []=> []
  | b::_=>match g a with
   | true=>⟨a,b⟩::jH g r
   | false=>jH g r
theorem EE (g:Int→Bool) (a b:Int) (r:List Int):jH g (a::b::r)=match g a with | true=>⟨a,b⟩::jH g (b::r) | false=>jH g (b::r):=by rw [jH]
def rf:Int→List Int→Int
 | a, []=>a
 | _,b::r=>rf b r
theorem zJ : ∀ {r:List Int} {a:Int},(a::r).Pairwise (fun a b=>a<b)→a≤rf a r∧∀ z,z∈r→z≤rf a r
 | [],a,_=>⟨Int.le_refl _,fun z h=>by grind⟩
 | b::r,a,h=>by
  obtain ⟨h1,h2⟩:=kW.1 h;have h3:=h1 b (fU ..);obtain ⟨k1,k2⟩:=zJ h2;grind [rf]
theorem EF {g:Int→Bool} {C:List Int} (hg : ∀ x y,(∀ z,z∈C→z≤x∨y≤z)→∀ d,x≤d→d<y→g d=g x) :
  ∀ (r:List Int) (a:Int),(a::r).Pairwise (fun a b=>a<b)→(∀ z,z∈C→z≤a∨z∈r)→∀ d,memB (jH g (a::r)) d=(decide (a≤d∧d<rf a r) && g d)
 | [],a,_,_,d=>by
  have:decide (a≤d∧d<rf a [])=false:=by grind [rf]
  rw [this];rfl
 | b::r,a,hp,hC,d=>by
  obtain ⟨h1,h2⟩:=kW.1 hp;have hab:=h1 b (fU ..);obtain ⟨hb2,h3⟩:=kW.1 h2;have hl:=(zJ h2).1;have ih:=EF hg r b h2 (fun z hz=>by grind) d;have hc : ∀ d,a≤d→d<b→g d=g a:=hg a b fun z hz=>by grind
  have e0:memB (jH g (a::b::r)) d=((g a && decide (a≤d∧d<b)) || memB (jH g (b::r)) d):=by
   rw [EE];cases g a with
   | true=>rw [ez,Bool.true_and]
   | false=>simp_all
  rw [e0,ih,show rf a (b::r)=rf b r from rfl];grind
def iZ (A:List PSpan):List Int:=bU (dt (oT A))
theorem KF (A:List PSpan):(iZ A).Pairwise (fun a b=>a<b)∧∀ z,z∈iZ A↔z∈oT A:=by
 obtain ⟨h1,h2⟩:=Iu (CC (oT A));exact ⟨h1,fun z=>(h2 z).trans (kw (oT A)).mem_iff⟩
theorem yM {A l:List PSpan} (hl : ∀ s,s∈l→s∈A) {x y:Int} (hz : ∀ z,z∈iZ A→z≤x∨y≤z) {d:Int} (h1:x≤d) (h2:d<y):memB l d=memB l x:=by
 have key : ∀ s,s∈l→((s.from_≤d∧d<s.to)↔(s.from_≤x∧x<s.to)):=fun s hs=>by
  obtain ⟨k1,k2⟩:=Ga (hl s hs);grind [KF]
 rw [Co,jV,jV];grind
theorem Lw {op:Bool→Bool→Bool} (h0:op false false=false) (A B:List PSpan) (d:Int):memB (jH (fun d=>op (memB A d) (memB B d)) (iZ (A++B))) d=op (memB A d) (memB B d):=by
 obtain ⟨h1,h2⟩:=KF (A++B);have out : ∀ (z1 z2:Int),(∀ z,z∈iZ (A++B)→z1≤z∧z≤z2)→¬ (z1≤d∧d<z2)→op (memB A d) (memB B d)=false:=fun z1 z2 hz hd=>by
  have no : ∀ l:List PSpan,(∀ s,s∈l→s∈A++B)→memB l d=false:=fun l hl=>by
   cases q:memB l d with
   | false=>rfl
   | true=>
    obtain ⟨s,k1,k2,k3⟩:=jV.1 q;obtain ⟨k4,k5⟩:=Ga (hl s k1);grind
  simp_all
 cases hC:iZ (A++B) with
 | nil=>
  rw [jH,me];exact (out (d+1) d (fun z hz=>by grind) (by omega)).symm
 | cons a r=>
  rw [hC] at h1;have hl:=zJ h1;have hp:=(kW.1 h1).1;rw [EF (C:=iZ (A++B)) (fun x y hz d h3 h4=>by
   show op (memB A d) (memB B d)=op (memB A x) (memB B x)
   rw [yM (A:=A++B) (fun s hs=>List.mem_append_left _ hs) hz h3 h4,yM (A:=A++B) (fun s hs=>I1 _ hs) hz h3 h4]) r a h1 (fun z hz=>by
   grind) d]
  by_cases q:a≤d∧d<rf a r;all_goals grind
theorem zN (A:List PSpan):(iZ A).length≤2 * A.length:=by
 have:=wC (dt (oT A));have h2:=(kw (oT A)).length_eq;grind [j6,iZ]
theorem Bf {g:Int→Bool} {C:List Int} {x:Nat} (h1:1≤x) (h2:x<C.length):jH g (C.drop (x - 1))=match g (gD C (x - 1)) with | true=>⟨gD C (x - 1),gD C x⟩::jH g (C.drop (x+1 - 1)) | false=>jH g (C.drop (x+1 - 1)):=by grind [De,EE]
theorem kp {g:Int→Bool} {C:List Int} {x:Nat} (h1:1≤x) (h2:C.length≤x):jH g (C.drop (x - 1)) = []:=by
 have:(C.drop (x - 1)).length≤1:=by simp_all
 match C.drop (x - 1),this with
 | [],_=>rfl
 | [_],_=>rfl
 | _::_::_,h=>simp_all
noncomputable def rn (op:Bool→Bool→Bool) (a b:List PSpan):List PSpan:=nf fun d=>op (memB a d) (memB b d)
theorem mZ (l:List PSpan):NrmS (iN l):=yF _
theorem BD (l:List PSpan) (d:Int):memB (iN l) d=(Ni d && memB l d):=HT _ d
theorem NX {op:Bool→Bool→Bool} (h0:op false false=false) {a b A B:List PSpan} (hA:iN a=A) (hB:iN b=B):iN (jH (fun d=>op (iz A d) (iz B d)) (iZ (A++B)))=rn op a b:=by
 have nA:NrmS A:=hA ▸ mZ a;have nB:NrmS B:=hB ▸ mZ b;have e:(fun d=>op (iz A d) (iz B d))=fun d=>op (memB A d) (memB B d):=funext fun d=>by grind [SG]
 rw [e];unfold iN rn;refine PX fun d hd=>?_
 rw [Lw h0,← hA,← hB,BD,BD,hd,Bool.true_and,Bool.true_and]
end Go.Ev
namespace Go.Ev
open Go
section
variable {H : Type} {enc : TypeId × Value → H} {P : Program} {w : World} {base : Nat} {spare : Nat → Bool} {held : Bool}
inductive VL (M:de):List AV→List Value→Prop
 | nil:VL M [] []
 | cons {x:AV} {v:Value} {xs:List AV} {vs:List Value} (h:VRel (fun _=>none) M x v) (t:VL M xs vs):VL M (x::xs) (v::vs)
theorem VL.append {M:de} {xs ys:List AV} {a b:List Value} (h:VL M xs a) (k:VL M ys b):VL M (xs++ys) (a++b):=by
 induction h with
 | nil=>grind
 | cons h _ ih=>exact .cons h ih
theorem VL.at_ {M:de} {xs:List AV} {a:List Value} (h:VL M xs a) : ∀ (j:Nat) (y:AV),xs[j]? = some y→∃ v,a[j]? = some v∧VRel (fun _=>none) M y v:=by
 induction h with
 | nil=>simp_all
 | cons h _ ih=>grind
theorem VL.one {M:de} {x:AV} {cs:List Value} (h:VL M [x] cs) : ∃ v,cs = [v]∧VRel (fun _=>none) M x v:=by
 cases h with
 | cons h t=>cases t;simp_all
def Wt (P:Program) (t:TypeId) (d:DataW H):Prop:=∀ m,m∈d.weights P t→m≤reachBytes
theorem pA {e:TypeId} {d:DataW H} {m:Nat} (hm:m∈d.weights P e) : ∀ {l:List (DataW H)},d∈l→m∈DataW.weightsAll P e l
 | [],h=>by grind
 | a::r,h=>by
  unfold DataW.weightsAll;rcases fj.1 h with rfl | h
  ·simp_all
  ·exact I1 _ (pA hm h)
theorem lj {t:TypeId} {d:DataW H} {m:Nat} (hm:m∈d.weights P t) : ∀ {ts:List TypeId} {l:List (DataW H)} (i:Nat),ts[i]? = some t→l[i]? = some d→m∈DataW.weightsEach P ts l
 | [],_,i,h,_=>by simp_all
 | _::_, [],i,_,h=>by simp_all
 | u::ts,a::r,i,h1,h2=>by
  unfold DataW.weightsEach;cases i with
  | zero=>simp_all
  | succ i=>exact I1 _ (lj hm i (by simp_all) (by simp_all))
def Dn (P:Program):List Field→Nat→Nat→Bool
 | [],off,n=>Nat.beq off n
 | f::r,off,n=>Nat.beq f.offset off && Dn P r (off+P.cellsOf f.type) n
def VF (M:de) (P:Program) (cs:List Value):List Field→List (List AV)→Prop
 | [], []=>True
 | f::fs,xs::xss=>VL M xs ((cs.drop f.offset).take (P.cellsOf f.type))∧VF M P cs fs xss
 | _,_=>False
theorem VF.vl {M:de} {cs:List Value} : ∀ {fs:List Field} {xss:List (List AV)} {off:Nat},Dn P fs off cs.length=true→VF M P cs fs xss→VL M xss.flatten (cs.drop off)
 | [], [],off,h,_=>by
  have:=pX h;rw [this,List.drop_length];exact .nil
 | [],_::_,_,_,h=>h.elim
 | _::_, [],_,_,h=>h.elim
 | f::fs,xs::xss,off,h,k=>by
  unfold Dn at h;rw [bV] at h;have ho:=pX h.1;have h1:=k.1;rw [ho] at h1;have h2:=VF.vl h.2 k.2;have e:cs.drop off=(cs.drop off).take (P.cellsOf f.type)++cs.drop (off+P.cellsOf f.type):=by grind [List.drop_drop,List.take_append_drop]
  rw [List.flatten_cons,e];exact h1.append h2
def TF (enc:TypeId × Value→H) (P:Program) (w:World) (base:Nat) (spare:Nat→Bool) (held:Bool) (n:Nat) (cs:List Value):List Field→Prop
 | []=>True
 | f::fs=>(∃ d p,DataW.trod enc P w base spare held n f.type ((cs.drop f.offset).take (P.cellsOf f.type))=some (d,p)∧Wt P f.type d)∧TF enc P w base spare held n cs fs
theorem UG {n:Nat} {cs:List Value} : ∀ (fs:List Field),(∀ (i:Nat) (f:Field),fs[i]? = some f→∃ d p,DataW.trod enc P w base spare held n f.type ((cs.drop f.offset).take (P.cellsOf f.type))=some (d,p)∧Wt P f.type d)→TF enc P w base spare held n cs fs
 | [],_=>trivial
 | f::fs,h=>⟨h 0 f rfl,UG fs fun i g hg=>h (i+1) g (by simp_all)⟩
theorem iB {t:TypeId} {fs:Array Field} {fuel:Nat} {cs:List Value} {d:DataW H} {p:List MemPlace} (hu:P.underlying t=some (.struct fs)) (hc:Dn P fs.toList 0 (P.cellsOf t)=true)
  (h:DataW.trod enc P w base spare held fuel t cs=some (d,p)) (hw:Wt P t d) :
  ∃ n,fuel=n+1∧TF enc P w base spare held n cs fs.toList∧∀ xss,VF (cK w) P cs fs.toList xss→VL (cK w) xss.flatten cs:=by
 obtain ⟨xs,n,rfl,h1,h2,h3,h4⟩:=DataW.trod_struct hu h;simp only [sn] at h1;obtain ⟨rfl,_⟩:=h1;refine ⟨n,rfl,UG _ fun i f hf=>?_,fun xss hx=>?_⟩
 ·have hf':fs[i]? = some f:=by simp_all
  have hi:i<xs.length:=by grind
  have e:=h4 i f hf';rw [lx hi] at e;refine ⟨xs[i].1,xs[i].2,e,fun m hm=>hw m ?_⟩;unfold DataW.weights;rw [hu];exact lj hm i (by simp_all) (by grind)
 ·have:=VF.vl (off:=0) (by simp_all) hx;simp_all
theorem gz {t:TypeId} {fuel:Nat} {cs:List Value} {d:DataW H} {p:List MemPlace} (hu:P.underlying t=some (.int .i64)) (h:DataW.trod enc P w base spare held fuel t cs=some (d,p)) : ∃ x,VL (cK w) [.int .i64 x] cs:=by
 obtain ⟨x,rfl,_⟩:=DataW.trod_int hu h;exact ⟨x, .cons (.int _ _) .nil⟩
theorem nq {t:TypeId} {fuel:Nat} {cs:List Value} {d:DataW H} {p:List MemPlace} (hu:P.underlying t=some .string) (h:DataW.trod enc P w base spare held fuel t cs=some (d,p)) : ∃ s,VL (cK w) [.str s] cs:=by
 obtain ⟨⟨⟨s⟩⟩,rfl,_⟩:=DataW.trod_string hu h;exact ⟨s, .cons (.str _) .nil⟩
theorem JO {α:Type} {Q:Nat→α→Prop} : ∀ (n:Nat),(∀ i,i<n→∃ x,Q i x)→∃ l:List α,l.length=n∧∀ i x,l[i]? = some x→Q i x
 | 0,_=>⟨[],rfl,fun i x h=>by simp_all⟩
 | n+1,h=>by
  obtain ⟨l,h1,h2⟩:=JO n fun i hi=>h i (by omega)
  obtain ⟨y,hy⟩:=h n (by omega);refine ⟨l++ [y],by simp_all,fun i x hx=>?_⟩;grind
theorem XP {x:AV} (h:x.cells.all cC=true):Sc x:=fun y hy=>nr.1 h y hy
theorem Ho {α:Type} (el:α→AV) (fit:α→Prop) {t e:TypeId} {fuel:Nat} {cs:List Value} {d:DataW H} {p:List MemPlace} (hu:P.underlying t=some (.slice e)) (hsz:Nat.blt 0 (P.cellsOf e)=true) (hby:Nat.blt 0 (P.bytesOf e)=true)
  (hel : ∀ x,(el x).cells.length=P.cellsOf e) (hsc : ∀ x,(el x).cells.all cC=true) (htop : ∀ x,(el x).top=0)
  (hrec : ∀ m,m<fuel→∀ cs d p,DataW.trod enc P w base spare held m e cs=some (d,p)→Wt P e d→∃ x,fit x∧VL (cK w) (el x).cells cs)
  (h:DataW.trod enc P w base spare held fuel t cs=some (d,p)) (hw:Wt P t d) :
  ∃ l:List α,l.length<2 ^ 47∧(∀ x,x∈l→fit x)∧VL (cK w) [.ls (l.map el)] cs:=by
 rw [dw] at hsz hby;simp only [decide_eq_true_eq] at hsz hby;rcases DataW.trod_slice hu h with ⟨rfl,_⟩ | ⟨a,len,cap,elems,rest,n,rfl,rfl,h1,h2,h3,h4,h5,h6,_,_⟩
 ·exact ⟨[],Nat.two_pow_pos 47,fun x h=>absurd h (List.not_mem_nil), .cons .lsn .nil⟩
 ·simp only [sn] at h1;obtain ⟨rfl,_⟩:=h1;have hwl:len<2 ^ 47:=by
   have:=hw ((elems.length+rest.length) * P.bytesOf e) (by grind [DataW.weights]);have h7:elems.length≤(elems.length+rest.length) * P.bytesOf e:=bH (Nat.le_add_right _ _) (Nat.le_mul_of_pos_right _ hby);have:elems.length≤reachBytes:=bH h7 this;rw [h5] at this;exact pZ this (by decide)
  have el0 : ∀ i,i<len→∃ x,fit x∧∃ cs:List Value,cs.length=P.cellsOf e∧(∀ j,j<P.cellsOf e→w.cell? ((a.add (i * P.cellsOf e)).add j)=cs[j]?)∧VL (cK w) (el x).cells cs:=by
   intro i hi;have k5:=h6 i hi;have hi':i<elems.length:=by omega
   rw [lx hi'] at k5;simp only [Option.bind_eq_some_iff] at k5;obtain ⟨cs,c1,c2⟩:=k5;obtain ⟨z1,z2⟩:=Ca c1;obtain ⟨x,f1,f2⟩:=hrec n (by omega) cs elems[i].1 elems[i].2 c2 (fun m hm=>hw m (by
    unfold DataW.weights;rw [hu];exact fW _ (List.mem_append_left _ (pA hm (jd.2 ⟨elems[i],Cn hi',rfl⟩)))))
   grind
  obtain ⟨l,q1,q2⟩:=JO len el0;refine ⟨l,by omega,fun x hx=>?_, .cons ?_ .nil⟩
  ·obtain ⟨i,hi⟩:=EY.1 hx;grind
  ·have q1':(l.map el).length=len:=by simp_all
   generalize hys:l.map el=ys at *;have q3 : ∀ i y,ys[i]? = some y→∃ cs:List Value,cs.length=P.cellsOf e∧(∀ j,j<P.cellsOf e→w.cell? ((a.add (i * P.cellsOf e)).add j)=cs[j]?)∧VL (cK w) y.cells cs:=by grind
   have q4 : ∀ y,y∈ys→y.cells.length=P.cellsOf e∧Sc y:=by grind [XP]
   have q5:aq ys=0:=by grind [aX]
   have addadd : ∀ i j:Nat,a.spot=none→(a.add i).add j=⟨a.block,a.off+i+j,none⟩:=by
    intro i j hs;obtain ⟨blk,off,spot⟩:=a;grind [Addr.add]
   have spot:ys≠ []→a.spot=none:=by
    intro hne;obtain ⟨x,hx⟩ : ∃ x,ys[0]? = some x:=by
     cases ys with
     | nil=>simp_all
     | cons x r=>exact ⟨x,rfl⟩
    grind [qP,Addr.add]
   have cell : ∀ (i j:Nat) (x:AV),ys[i]? = some x→j<P.cellsOf e→∃ c v,cK w a.block=some c∧c[a.off+i * P.cellsOf e+j]? = some v∧∀ y,x.cells[j]? = some y→VRel (fun _=>none) (cK w) y v:=by
    intro i j x hx hj;obtain ⟨cs,c1,c2,c3⟩:=q3 i x hx;have:=c2 j hj;rw [lx (by omega),addadd _ _ (spot (by grind))] at this;obtain ⟨_,c,m1,m2⟩:=qP this;refine ⟨c,_,m1,m2,fun y hy=>?_⟩;obtain ⟨v,g1,g2⟩:=c3.at_ j y hy;simp_all
   refine .lsp ?_ q5;by_cases hne:ys = []
   ·subst hne;simp at q1';subst q1';exact .ps (sz:=P.cellsOf e) (c:=#[]) (by simp) (fun h=>by grind) (fun h=>absurd rfl h) (fun x h=>by simp_all) (fun i x j y h=>by simp_all)
   ·have hlen:0<ys.length:=pn.2 hne;obtain ⟨x0,hx0⟩ : ∃ x,ys[ys.length - 1]? = some x:=⟨ys[ys.length - 1],by simp⟩
    obtain ⟨c,v0,m1,m2,_⟩:=cell (ys.length - 1) (P.cellsOf e - 1) x0 hx0 (by omega);have hc:=(vC.1 m2).1;have hfit:a.off+ys.length * P.cellsOf e≤c.size:=by
     have h1:(ys.length - 1) * P.cellsOf e+P.cellsOf e=ys.length * P.cellsOf e:=by rw [← pu];grind
     omega
    have:=VRel.ps (pl:=fun _=>none) (M:=cK w) (xs:=ys) (tight:=false) (a:=a) (cap:=cap) (sz:=P.cellsOf e) (c:=c) (by omega) (fun h=>by grind) (fun _=>⟨spot hne,m1,hfit,hsz⟩) q4
     (fun i x j y hx hy=>by
      obtain ⟨r1,_⟩:=q4 x (bm hx);have hj:j<P.cellsOf e:=by grind
      obtain ⟨c',v,n1,n2,n3⟩:=cell i j x hx hj;simp_all)
    simp_all
theorem kF {α:Type} (el:α→AV) (fit:α→Prop) {t e:TypeId} {fuel:Nat} {cs:List Value} {d:DataW H} {p:List MemPlace} (hu:P.underlying t=some (.slice e)) (hsz:Nat.blt 0 (P.cellsOf e)=true) (hby:Nat.blt 0 (P.bytesOf e)=true)
  (hel : ∀ x,(el x).cells.length=P.cellsOf e) (hsc : ∀ x,(el x).cells.all cC=true) (htop : ∀ x,(el x).top=0)
  (hrec : ∀ m,m<fuel→∀ cs d p,DataW.trod enc P w base spare held m e cs=some (d,p)→Wt P e d→∃ x,fit x∧VL (cK w) (el x).cells cs)
  (h:DataW.trod enc P w base spare held fuel t cs=some (d,p)) (hw:Wt P t d) :
  ∃ l:List α,l.length<2 ^ 60∧(∀ x,x∈l→fit x)∧VL (cK w) [.ls (l.map el)] cs:=by
 have ⟨l,h1,h2⟩:=Ho el fit hu hsz hby hel hsc htop hrec h hw;grind
end
end Go.Ev
namespace Go.Ev
open Go
structure PPair where
 a:Int
 b:Int
deriving Inhabited,DecidableEq
structure PRef where
 act:Int
 item:Int
deriving Inhabited,DecidableEq
def m5 (u:TUnit):List PWord:=u.head++u.words
mutual
def mI:TUnit→List PWord
 | ⟨_,_,_,_,_,h,w,ks⟩=>(h++w)++kU ks
def kU:List TUnit→List PWord
 | []=> []
 | k::r=>mI k++kU r
end
theorem K4 (u:TUnit):mI u=m5 u++kU u.kids:=by obtain ⟨a,b,c,d,e,h,w,ks⟩:=u;rw [mI];rfl
theorem Cl:kU [] = []:=by rw [kU]
theorem sf (k:TUnit) (r:List TUnit):kU (k::r)=mI k++kU r:=by rw [kU]
theorem qF {k:Int} : ∀ {m:List (Int × Int)},gj k m=none→¬ k∈m.map (·.1)
 | [],_=>by simp
 | (i,x)::r,h=>by
  simp only [gj] at h;cases e:ae k i with
  | true=>grind
  | false=>
   rw [e] at h;have:=qF h;grind [wi]
section
variable {u w' : TUnit} {ws : List PWord} {w : PWord} {r : List PWord} {ks : List TUnit} {m x : List (Int × Int)} {c B : Int}
end
theorem VRel.ls0 {pl:Pl} {M:de} {x:Value} (h:VRel pl M (.ls []) x):VRel pl M .nils x∨VRel pl M (.ps [] false) x:=by
 cases h with
 | lsn=>exact .inl .nils
 | lsp h _=>simp_all
theorem D0 {P:Program} {G:eg} {f:FuncId} {a b c:List AV} {h:AHeap} {Ψ:AV→AHeap→Prop} (hs : ∀ pl M vs,VRels pl M c vs→VRels pl M a vs∨VRels pl M b vs) (h1:aG P G f a h Ψ) (h2:aG P G f b h Ψ):aG P G f c h Ψ:=fun pl M w vs hg hr hv=>(hs pl M vs hv).elim (h1 pl M w vs hg hr) (h2 pl M w vs hg hr)
theorem VRels.first {pl:Pl} {M:de} {x y z:AV} {r:List AV} {vs:Array Value} (h:VRels pl M (z::r) vs) (hs : ∀ v,VRel pl M z v→VRel pl M x v∨VRel pl M y v):VRels pl M (x::r) vs∨VRels pl M (y::r) vs:=by
 obtain ⟨h1,h2⟩:=h;have lift : ∀ u,VRel pl M u (vs.getD 0 undef)→VRels pl M (u::r) vs:=fun u hu=>⟨h1,fun j y hj=>by
  cases j with
  | zero=>grind
  | succ j=>simp_all⟩
 exact (hs _ (h2 0 z rfl)).imp (lift x) (lift y)
end Go.Ev
namespace Go.Ev
open Go
theorem aA {n b m:Nat} (h1:n≤m) (h2:m≤2 ^ 40) (h3:m * b≤2 ^ 40):small n b=true:=by
 unfold small;have h4:n * b≤m * b:=ec b h1;grind [Nat.ble_eq_true_of_le]
def WL (d:Int):List Int→List Int
 | []=> [d]
 | x::r=>bif ar x d then x::WL d r else bif ae x d then x::r else d::x::r
def gw (ws:List PWord) (l:List Int):List Int:=ws.foldl (fun l w=>WL w.act l) l
end Go.Ev
namespace Go.Ev
open Go
def SZ {α:Type} : Result α→World
 | .ok _ w=>w
 | .halt _ w=>w
def gW:GStep→World
 | .go _ w _=>w
 | .comm _ _ _ _ w _=>w
 | .spawn _ _ w _=>w
 | .count _ w _=>w
 | .timer _ _ w _=>w
 | .alone _ _ w _=>w
 | .newcoro _ _ _ w _=>w
 | .coroswitch _ _ _ w _=>w
 | .collect _ w _=>w
 | .watch _ w _=>w
 | .ended _ w _=>w
theorem kO (es:Array Event) (g:GStep):gW (GStep.after es g)=gW g:=by cases g <;> rfl
theorem IF {α:Type} : ∀ (q:Ask α) (w:World),w.drawn≤(w.ask q).2.drawn
 | .done a,w=>al _
 | .ask what range k,w=>by
  rw [World.ask];split
  ·exact IF (k 0) w
  ·exact bH (nC _) (IF _ { w with drawn:=w.drawn+1 })
theorem N6 (w:World) (c:Sys):w.drawn≤(w.sys c).2.drawn:=by
 unfold World.sys;have h:=IF (Kernel.perform c w.os) w;grind
theorem wO {p:Program} {w w':World} {at_:Addr} {u:TypeId} {k:Addr} {v:Value} {b:Bool} {l:List Addr} (h:w.viewStore p at_ u k v b = .ok (w',l)):w'.drawn=w.drawn:=by
 unfold World.viewStore at h;simp only [bind,Except.bind,pure,Except.pure] at h
 repeat' split at h
 all_goals first | cases h;done | (injection h with h;injection h with h1 h2;rw [← h1])
theorem zo {p:Program} {w w':World} {a:Addr} {v:Value} {b:Bool} {l:List Addr} (h:w.farStore p a v b = .ok (w',l)):w'.drawn=w.drawn:=by
 unfold World.farStore at h
 repeat' split at h
 all_goals first | cases h;done | grind [wO]
theorem Dk (w:World) (a:Addr) (n:Nat):(w.freeze a n).drawn=w.drawn:=by unfold World.freeze;grind
theorem Oa (p:Program) {α:Type} (s:Sem α) : ∀ (w:World),w.drawn≤(SZ (s.run p w)).drawn:=by
 induction s with
 | pure a=>exact fun w=>al _
 | load m a k ih=>
  intro w;simp only [Sem.run]
  repeat' split
  all_goals first | exact ih _ _ | exact al _
 | store m a v k ih=>
  intro w;cases v
  all_goals simp only [Sem.run]
  all_goals first
   | exact al _
   | ((repeat' split);all_goals first | exact al _ | exact ih (w.setCell _ _) | (rename_i e;refine bH ?_ (ih _);rw [zo e];exact al _))
 | new o k ih=>grind [Sem.run]
 | shape r k ih=>grind [Sem.run]
 | freeze a n k ih=>intro w;simp only [Sem.run];refine bH ?_ (ih _);simp_all [Dk]
 | frozen a k ih=>grind [Sem.run]
 | getObj r k ih=>
  intro w;simp only [Sem.run]
  repeat' split
  all_goals first | exact ih _ _ | exact al _
 | setObj r o k ih=>
  intro w;simp only [Sem.run]
  repeat' split
  all_goals first | exact ih { w with heap:=w.heap.setIfInBounds r o } | exact al _
 | choose q k ih=>
  intro w;simp only [Sem.run];grind
 | sys c k ih=>grind [Sem.run,N6]
 | program k ih=>grind [Sem.run]
 | mark m k ih=>grind [Sem.run]
 | halt h=>exact fun w=>al _
theorem co {p:Program} {α:Type} {s:Sem α} {w:World} {r:Result α} (h:s.run p w=r):w.drawn≤(SZ r).drawn:=h ▸ Oa p s w
theorem R8 {p:Program} {α:Type} {s:Sem α} {w:World} {es es':Array Event} {r:Result α} (h:s.runT p w es=(r,es')):w.drawn≤(SZ r).drawn:=by
 have:=Sem.runT_fst p s w es;rw [h] at this;exact co this.symm
theorem Im (w:World) (fd:Nat) (text:ByteArray) (o:Outcome):w.drawn≤(gW (endWith w fd text o)).drawn:=by
 unfold endWith;simp only [];have h:=N6 w (.write fd text);split;all_goals (rename_i e;rw [e] at h)
 all_goals repeat' split
 all_goals exact h
theorem wm (fr:Frame) (m:String) (w:World):w.drawn≤(gW (endThrow fr m w)).drawn:=al _
theorem qv (p:Program) (fr:Frame) (v:Value) (w:World):w.drawn≤(gW (endPrinting p fr v w)).drawn:=by
 unfold endPrinting;simp only []
 repeat' split
 all_goals exact al _
theorem wo (p:Program) (fr:Frame) (cs:List Frame) (d:Option Dying) (m:String) (w:World):w.drawn≤(gW (endFatal p fr cs d m w)).drawn:=by
 unfold endFatal;simp only [];split;all_goals (rename_i e;exact co e)
theorem Hx (p:Program) (fr:Frame) (d:Dying) (f:Fatal) (w:World):w.drawn≤(gW (writeOn p fr d f w)).drawn:=by
 unfold writeOn;split
 ·exact al _
 ·simp only [];split;all_goals (rename_i e;exact R8 e)
theorem V7 (p:Program) (fr:Frame) (d:Dying) (w:World):w.drawn≤(gW (die p fr d w)).drawn:=by
 unfold die;split
 ·grind [Hx]
 ·split
  ·split
   ·exact al _
   grind [Im]
  ·simp only [];split
   ·exact al _
   ·split;all_goals (rename_i e;exact co e)
   ·rw [kO];split;all_goals first | (rename_i e;exact co ((Sem.runT_fst ..).symm.trans e)) | skip
    ·rename_i e;exact bH (co ((Sem.runT_fst ..).symm.trans e)) (qv ..)
    ·exact al _
   ·exact al _
theorem qb (p:Program) (main:Bool) (fr:Frame) (cs:List Frame) (d:Option Dying) (v:Value) (w:World):w.drawn≤(gW (doReturn p main fr cs d v w)).drawn:=by
 unfold doReturn
 repeat' split
 all_goals exact al _
theorem sU {c:Prop} [Decidable c] {a b:GStep} {n:Nat} (h1:n≤(gW a).drawn) (h2:n≤(gW b).drawn):n≤(gW (if c then a else b)).drawn:=by grind
theorem xW (p:Program) (fr:Frame) (cs:List Frame) (dy:Option Dying) (d:Deferred) (w:World):w.drawn≤(gW (callDeferred p fr cs dy d w)).drawn:=by
 unfold callDeferred;refine sU ?_ ?_
 ·exact al _
 ·simp only [];rw [kO];split;all_goals (rename_i e;have h:=co ((Sem.runT_fst ..).symm.trans e))
  all_goals first | exact h | exact bH h (wo ..) | ((repeat' split) <;> exact h)
theorem LW (p:Program) (main:Bool) (fr:Frame) (cs:List Frame) (dy:Option Dying) (w:World):w.drawn≤(gW (unwind p main fr cs dy w)).drawn:=by
 unfold unwind;split
 ·simp only [];rw [kO];split;all_goals (rename_i e;exact co ((Sem.runT_fst ..).symm.trans e))
 ·grind [xW]
 ·split
  ·exact al _
  ·split
   ·exact al _
   ·split
    ·exact al _
    ·split
     ·split
      ·exact al _
      ·split;all_goals (rename_i e;exact co e)
     ·split
      ·grind [qv]
      ·exact al _
  ·split
   ·grind [qb]
   ·simp only [];rw [kO];split;all_goals (rename_i e;have h:=co ((Sem.runT_fst ..).symm.trans e))
    all_goals first | exact h | exact bH h (qb ..)
theorem Ql (p:Program) (fr:Frame) (cs:List Frame) (dy:Option Dying) (g:Nat) (w:World):w.drawn≤(gW (early p fr cs dy g w)).drawn:=by
 unfold early;simp only []
 repeat' split
 all_goals first | exact al _ | (rename_i e;exact co e) | (rename_i e _;exact co e) | (rename_i e _ _;exact co e) | (rename_i e _ _ _ _;exact co e)
theorem uj (p:Program) (listen:Bool) (fr:Frame) (cs:List Frame) (dy:Option Dying) (s:Sem Next) (w:World):w.drawn≤(gW (stepG.apply p listen fr cs dy s w)).drawn:=by
 unfold stepG.apply;simp only [];rw [kO];have h0:w.drawn≤(SZ (if listen=true then Sem.runT p s w #[] else (Sem.run p s w,#[])).fst).drawn:=by
  cases listen
  ·grind [Oa]
  ·exact co (Sem.runT_fst ..).symm
 generalize (if listen=true then Sem.runT p s w #[] else (Sem.run p s w,#[])).fst=r at h0 ⊢;split;all_goals first | exact h0 | exact bH h0 (wo ..) | exact bH h0 (Ql ..) | exact bH h0 (wm ..) | skip
 all_goals repeat' split
 all_goals first | exact h0 | exact bH h0 (wm ..) | skip
theorem Sf (p:Program) (listen:Bool) (fr:Frame) (cs:List Frame) (dy:Option Dying) (w:World):w.drawn≤(gW (stepG.oper p listen fr cs dy w)).drawn:=by
 unfold stepG.oper;split
 ·exact al _
 ·split;all_goals exact uj ..
theorem Tp (p:Program) (main listen:Bool) (fr:Frame) (cs:List Frame) (dy:Option Dying) (w:World):w.drawn≤(gW (stepG.exec p main listen fr cs dy w)).drawn:=by
 have lv : ∀ (l : Nat) (jump : Option Code), w.drawn ≤ (gW (GStep.after (seen p fr.fn ((Instr.endRound l jump).runT p w #[]).snd) (match ((Instr.endRound l jump).runT p w #[]).fst with | .ok v w => doReturn p main fr cs dy v w | .halt _ w => .ended (.stuck "range over a function: no such loop" (fr.pos p)) w))).drawn := by
  intro l jump;rw [kO];have h0:=co (Sem.runT_fst p (Instr.endRound l jump) w #[]).symm;split;all_goals (rename_i e;rw [e] at h0)
  ·exact bH h0 (qb ..)
  ·exact h0
 unfold stepG.exec;simp only [];split;all_goals first | exact al _ | exact uj .. | skip
 ·split
  ·exact sU (al _) (al _)
  grind
 ·split
  ·exact sU (al _) (al _)
  grind
 ·split <;> exact al _
 ·rename_i id k _;cases exitTo id k with
  | none=>simp only [Option.elim];split;exact sU (al _) (al _);grind
  | some k'=>exact al _
 ·rename_i id k _;cases gotoIn id k with
  | none=>simp only [Option.elim];split;exact sU (al _) (al _);grind
  | some k'=>exact al _
 ·rw [kO];split
  ·rename_i e;exact bH (co ((Sem.runT_fst ..).symm.trans e)) (uj ..)
  ·rename_i e;exact co ((Sem.runT_fst ..).symm.trans e)
 ·rw [kO];split <;> rename_i e <;> exact co ((Sem.runT_fst ..).symm.trans e)
 ·rename_i row _ _ _;cases Extern.next row with
  | none=>exact al _
  | some e=>grind [uj]
 ·refine sU (al _) ?_;split <;> rename_i e <;> exact co e
 ·exact sU (Sf ..) (al _)
theorem N9 (p:Program) (main listen:Bool) (g:Goroutine) (w:World):w.drawn≤(gW (stepG p main g w listen)).drawn:=by
 unfold stepG;grind [V7,Tp,LW]
def sD (n:Nat):Stepped→Prop
 | .next m=>n≤m.world.drawn
 | .ended _ _=>True
theorem sD.trans {n k:Nat} {s:Stepped} (h:n≤k) (g:sD k s):sD n s:=by
 cases s with
 | next m=>exact bH h g
 | ended o w=>trivial
theorem Pg {c:Prop} [Decidable c] {a b:Stepped} {n:Nat} (h1:sD n a) (h2:sD n b):sD n (if c then a else b):=by grind
theorem JN (p:Program) (gs:Array Goroutine) (rest:Rest) (w:World):sD w.drawn (look p gs rest w):=by
 unfold look;simp only [];split
 ·refine Pg trivial ?_;split
  ·trivial
  ·split <;> rename_i e <;> first | exact co e | trivial
 ·trivial
theorem wN {rest:Rest} {cases:Array CommCase} {w w':World} (h:waitingAt rest cases w=some w'):w'.drawn=w.drawn:=by
 unfold waitingAt at h
 repeat' split at h
 all_goals first | (cases h;done) | (cases h;rfl)
theorem DK {c:Prop} [Decidable c] {a b:Stepped × Array MemOp} {n:Nat} (h1:sD n a.1) (h2:sD n b.1):sD n (if c then a else b).1:=by grind
theorem zT (p:Program) (rest:Rest) (gs:Array Goroutine) (i:Nat) (g:Goroutine) (cs:Array CommCase) (bl:Bool) (sh:CommShape) (w:World):sD w.drawn (communicate p rest gs i g cs bl sh w).1:=by
 unfold communicate;simp only [];refine DK trivial (DK (DK ?_ (al _)) ?_)
 ·split
  ·rename_i e;exact so (wN e).symm
  ·trivial
 ·split
  ·trivial
  ·rename_i w1 e;have h:w.drawn≤w1.drawn:=co e;clear e;split
   ·split
    ·rename_i e;exact bH h (co e)
    ·trivial
   ·exact h
   ·exact h
   ·split
    ·exact h
    ·split
     ·rename_i e;exact bH h (co e)
     ·trivial
   ·exact h
   ·exact h
   ·trivial
theorem Oj (p:Program) (m:Machine) (k:Nat):sD m.world.drawn (serve p m k):=by
 unfold serve;split
 ·trivial
 ·exact al _
 ·simp only [];split
  ·trivial
  ·exact al _
theorem Af {m m':Machine} {op:TimerOp} {v:Value} (h:timerOp m op = .ok (v,m')):m'.world.drawn=m.world.drawn:=by
 have rt : ∀ (m:Machine) (k:Nat) (t:Timer) (a b:Nat),(retime m k t a b).2.world.drawn=m.world.drawn:=by
  intro m k t a b;unfold retime drain;grind
 cases op with
 | new t=>
  simp only [timerOp] at h
  repeat' split at h
  all_goals first | (cases h;done) | (cases h;rfl)
 | stop var=>
  simp only [timerOp,timerOp.named] at h;grind
 | reset var a b=>
  simp only [timerOp,timerOp.named,timerOp.opened] at h;split at h
  ·rename_i e;have e2 : ∀ m2:Machine,(if waitedFor m var=true then match Kernel.withPoller m.world.os with | .ok os=>some { m with world:= { m.world with os } } | .error _=>none else some m)=some m2→m2.world.drawn=m.world.drawn:=by
    intro m2 e
    repeat' split at e
    all_goals first | (cases e;done) | (cases e;rfl)
   grind
  ·grind
 | deadline a b c d=>simp only [timerOp] at h;cases h;rfl
theorem R7 (p:Program) (m:Machine) (i:Nat) (b:Bool):sD m.world.drawn (runT p m i b).1:=by
 unfold runT;simp only [];have h:=N9 p (i == 0) b (m.gs.swapAt! i { (default:Goroutine) with status:= .finished }).1 m.world;generalize stepG p (i == 0) (m.gs.swapAt! i { (default:Goroutine) with status:= .finished }).1 m.world b=s at h ⊢;cases s
 all_goals simp only []
 all_goals try exact h
 all_goals try trivial
 ·exact sD.trans h (zT ..)
 ·exact Pg trivial h
 ·split
  ·rename_i e;exact bH h (so (Af e).symm)
  ·split
   ·rename_i e;cases e;exact h
   ·trivial
  ·trivial
  ·trivial
 ·split
  ·exact h
  ·split
   ·rename_i e;cases e;exact h
   ·trivial
  ·trivial
 ·exact sD.trans h (JN ..)
def Ng (n:Nat):Move→Prop
 | .goroutine m _=>n≤m.world.drawn
 | .machine s _=>sD n s
theorem Ng.trans {n k:Nat} {s:Move} (h:n≤k) (g:Ng k s):Ng n s:=by
 cases s with
 | goroutine m i=>exact bH h g
 | machine s o=>exact sD.trans h g
theorem AK (p:Program) (m:Machine):Ng m.world.drawn (askOn p m):=by
 have pick : ∀ (m:Machine) (rs:List Nat),Ng m.world.drawn (match (choose (.sched rs.length)).run p m.world with
   | .halt _ w => .machine (.ended (.stuck "sched" "") w)
   | .ok k world=>
    if rs.length≤1 then .goroutine { m with world } (rs.getD k 0) else
    match (choose (.extern "sched.slice" 65536)).run p world with
    | .halt _ w => .machine (.ended (.stuck "sched.slice" "") w)
    | .ok n world=> .goroutine { m with world,rest:= { m.rest with slice:=if n=0 then none else some (rs.getD k 0,n) } } (rs.getD k 0)):=by
  intro m rs;split
  ·trivial
  ·rename_i w1 e;have h:m.world.drawn≤w1.drawn:=co e;split
   ·exact h
   ·split
    ·trivial
    ·rename_i e;exact bH h (co e)
 unfold askOn;simp only [];split
 ·trivial
 ·rename_i k w1 e;have h:m.world.drawn≤w1.drawn:=co e;clear e;split
  ·exact sD.trans h (Oj p { m with world:=w1 } _)
  ·split
   ·split
    ·exact h
    ·split
     ·exact h
     ·split <;> trivial
   ·split
    ·exact Ng.trans h (pick { m with world:=w1 } _)
    ·split
     ·trivial
     ·rename_i w2 e;exact Ng.trans (bH h (co e)) (pick { m with world:=w2 } _)
     ·rename_i e;exact bH h (co e)
     ·rename_i k2 w2 e;exact Ng.trans (bH h (co e)) (pick (Machine.advanceTo { m with world:=w2 } _) _)
theorem KS (p:Program) (m:Machine):Ng m.world.drawn (ask p m):=by
 unfold ask;split
 ·split
  ·trivial
  ·rename_i w1 e;have h:m.world.drawn≤w1.drawn:=co e;have h2:=JN p m.gs m.rest w1;split
   ·rename_i e2;rw [e2] at h2;exact Ng.trans (bH h h2) (AK ..)
   ·exact sD.trans h h2
  ·rename_i w1 _ e;have h:m.world.drawn≤w1.drawn:=co e;exact Ng.trans h (AK p { m with world:=w1 })
 grind [AK]
theorem Su (p:Program) (m:Machine):Ng m.world.drawn (move p m):=by
 unfold move;split
 ·split
  ·exact al _
  ·trivial
 ·split
  ·split
   ·exact al _
   ·exact KS p { m with rest:= { m.rest with slice:=none } }
  grind [KS]
theorem RO (p:Program) (m:Machine):sD m.world.drawn (step p m):=by
 unfold step stepT;have h:=Su p m;split
 ·rename_i e;rw [e] at h;exact sD.trans h (R7 ..)
 ·rename_i e;rw [e] at h;exact h
theorem Je (p:Program) : ∀ (n:Nat) (m m':Machine),runN p n m = .next m'→m.world.drawn≤m'.world.drawn
 | 0,m,m',h=>by cases h;omega
 | n+1,m,m',h=>by
  rw [runN] at h;have h1:=RO p m;split at h
  ·rename_i e;rw [e] at h1;exact bH h1 (Je p n _ _ h)
  simp_all
theorem N8 {p:Program} {m m':Machine} (h:Steps p m m'):m.world.drawn≤m'.world.drawn:=by
 obtain ⟨n,h⟩:=h;exact Je p n m m' h
theorem GO {p:Program} {f:FuncId} {args:Array Value} {w:World} {R:Ending→World→Prop} (h:Calls p f args w R):Calls p f args w fun e w'=>R e w'∧((∃ v,e = .returned v)→w.drawn≤w'.drawn):=by
 intro cs;obtain ⟨e,w',fr,h1,h2,h3,h4⟩:=h cs;refine ⟨e,w',fr,⟨h1,?_⟩,h2,h3,h4⟩
 rintro ⟨v,rfl⟩
 exact N8 (m:=lone _ cs w) (m':=lone fr cs w') h2
end Go.Ev
namespace Go.Ev
open Go Go.RowKit
section
variable {P : Program} {G : eg} {pl : Pl} {M : de} {h : AHeap} {w w' : World} {f : FuncId} {args : List AV} {v : AV}
theorem ct.below (hr:ct pl M h w) (hb:Below w.heap.size w w'):ct pl M h w':=
 ⟨hr.dom,fun id p o h1 h2=>by rw [hb.block _ (hr.blk id p h1)];exact hr.obj id p o h1 h2,fun id p h1=>EK (hr.blk id p h1) hb.size,hr.inj,
  fun b c h1=>by rw [hb.block _ (hr.memLt h1)];exact hr.imm b c h1,hr.sep⟩
theorem cO.below (hb:Below w.heap.size w w') (hd:w.drawn≤w'.drawn):cO h pl M w h pl M w':=⟨mT.refl _,fun _ _ h=>h,fun _ _ h=>h,hb.size,fun b h1 _=>hb.block b h1,fun id p h=> .inl ⟨p,h,rfl⟩,fun _ _ _ h=>h,fun _ _ h _=>h,fun _ _ h=> .inl h,hb.os,hb.tape,hb.output,hd⟩
theorem aP.below (hE : ∀ vs w,(callFunc f vs).run P w = .ok (.enter f vs) w)
  (hC : ∀ (pl:Pl) (M:de) (w:World) (vs:Array Value) (h:AHeap),o9 G pl M→ct pl M h w→VRels pl M args vs→∃ cv,VRel pl M v cv∧Calls P f vs w fun e w'=>e = .returned cv∧Below w.heap.size w w'):aP P G f args v:=by
 intro h pl M w vs hG hr hv;obtain ⟨cv,h1,h2⟩:=hC pl M w vs h hG hr hv;refine .inl ⟨hE _ _,Calls.mono (GO h2) fun e w' ⟨⟨he,hb⟩,hd⟩=>?_⟩;exact ⟨cv,v,h,he,⟨rfl,rfl⟩,pl,M,h1,hr.below hb,cO.below hb (hd ⟨_,he⟩),al _⟩
theorem aP.calls (hGT:io G) (hE : ∀ vs w,(callFunc f vs).run P w = .ok (.enter f vs) w) (hp:aP P G f args v) (hG:o9 G pl M) (hr:ct pl M h w) {vs:Array Value} (hv:VRels (fun _=>none) M args vs) :
  Calls P f vs w fun e w'=>(∃ cv pl' M',e = .returned cv∧VRel pl' M' v cv)∧Below w.heap.size w w'∧w.drawn≤w'.drawn:=by
 have r0:ct (fun _=>none) M AHeap.none w:=⟨fun _ _ h=>(by grind),fun _ _ _ h _=>(by grind),fun _ _ h=>(by grind),fun _ _ _ _ h _ _=>(by grind),hr.imm,fun _ _ h=>(by grind)⟩
 rcases hp AHeap.none (fun _=>none) M w vs (hG.none hGT) r0 hv with ⟨_,h2⟩ | ⟨cv,w1,v1,h1,e1,_,_⟩
 ·refine Calls.mono h2 fun e w' ⟨cv,v1,h1,he,⟨e1,e2⟩,pl',M',g1,g2,g3,_⟩=>?_
  subst e1;exact ⟨⟨cv,pl',M',he,g1⟩,⟨g3.os,g3.tape,g3.out,g3.size,fun b hb=>g3.kept b hb fun id p h=>(by grind)⟩,g3.drawn⟩
 ·grind
end
end Go.Ev
namespace Go.Ev
open Go
def Pu (lo hi:Int) (c:UInt8):Bool:=ak (ar (.ofNat c.toNat) lo || ar hi (.ofNat c.toNat))
abbrev j7:UInt8→Bool:=Pu 48 57
abbrev WK:UInt8→Bool:=Pu 65 90
def eJ (p:UInt8→Bool) (s:aN):Nat:=(s.takeWhile p).length
section
variable {p : UInt8 → Bool} {s : aN}
theorem Jf:eJ p s≤s.length:=(List.takeWhile_prefix p).length_le
theorem Jg : ∀ {s:aN} {i:Nat},i<eJ p s→p (gD s i)=true
 | [],i,h=>by simp_all [eJ]
 | c::r,i,h=>by
  cases hc:p c with
  | false=>simp_all [eJ]
  | true=>
   cases i with
   | zero=>exact hc
   | succ i=>exact Jg (s:=r) (by simp_all [eJ])
theorem EM : ∀ {s:aN},eJ p s<s.length→p (gD s (eJ p s))=false
 | [],h=>by simp_all
 | c::r,h=>by
  cases hc:p c with
  | false=>simp [eJ,hc,gD]
  | true=>
   have h2:eJ p r<r.length:=by simp_all [eJ]
   have:=EM (s:=r) h2;simp_all [eJ,gD]
theorem uN : ∀ {s:aN},eJ p s=s.length↔s.all p=true
 | []=>by simp [eJ]
 | c::r=>by
  have ih:eJ p r=r.length↔r.all p=true:=uN;cases hc:p c with
  | false=>simp [eJ,hc]
  | true=>simp_all [eJ]
end
theorem VA {lo hi:Int} {c:UInt8} (h1:ar hi (.ofNat c.toNat)=true):Pu lo hi c=false:=by grind [Pu]
def jP (s:aN):Bool:=ak (ar (.ofNat (s.take (eJ j7 s)).length) 1) && (ak (ar 4 (.ofNat (s.take (eJ j7 s)).length)) && (ak (ae (.ofNat (gD (s.take (eJ j7 s)) 0).toNat) 48) && (ak (ar 3 (.ofNat (s.drop (eJ j7 s)).length)) && (s.drop (eJ j7 s)).all WK)))
def rx (s:aN):Bool:=ak (ar (.ofNat s.length) 1) && (ak (ar 24 (.ofNat s.length)) && s.all (Pu 33 126))
def pM (l:List aN):Bool:=ak (ar 256 (.ofNat l.length)) && l.all rx
theorem DZ:({ data:=#[] } : ByteArray).data.toList=([]:List UInt8):=rfl
theorem Qf (s:aN):ar (.ofNat s.length) 1=dM s []:=by cases s <;> rfl
def di {α:Type} (p:α→Bool):List α→Nat→Int
 | [],_=> -1
 | x::r,i=>bif p x then Int.ofNat i else di p r (i+1)
theorem kN {α:Type} (p:α→Bool) : ∀ (l:List α) (i:Nat),ar (di p l i) 0=ak (l.any p)
 | [],_=>rfl
 | x::r,i=>by
  unfold di;rw [List.any_cons];cases h:p x with
  | true=>rfl
  | false=>simp_all [kN]
section
variable {α : Type} {p : α → Bool} {l x r : List α} {w : α} {j : Nat}
theorem n7 (h1:l.drop j=x) (h2:x=w::r):l.length - (w::r).length=j∧l.length - r.length=j+1:=by grind
theorem lL (h1:l.drop j=x) (h2:x=w::r) (h3:di p l 0=di p (w::r) (l.length - (w::r).length)) (h4:p w=true):di p l 0=Int.ofNat j:=by rw [h3,(n7 h1 h2).1,di,h4];rfl
theorem jS (h1:l.drop j=x) (h2:x=w::r) (h3:di p l 0=di p (w::r) (l.length - (w::r).length)) (h4:p w=false):di p l 0=di p r (l.length - r.length):=by rw [h3,(n7 h1 h2).1,(n7 h1 h2).2,di,h4];rfl
end
def mN (s:PStep):Bool:=ae s.kind 0 && dM s.label []
def sL (s:PStep):Bool:=ar 0 s.kind && (ak (ar 7 s.kind) && jP s.label)
def Nq:List PStep→Bool
 | []=>true
 | s::r=>(mN s || sL s) && r.all sL
def kq (p:List PStep):Bool:=Nq p && ak (ar 9 (.ofNat p.length))
def G8 (p r:List PStep):Bool:=bif Nat.beq r.length p.length then Nq r else r.all sL
theorem NU {p:List PStep} : Nq p=G8 p p:=by simp_all [G8]
theorem UK {p:List PStep} : G8 p []=true:=by unfold G8;cases Nat.beq ([]:List PStep).length p.length <;> rfl
theorem DG {p x r:List PStep} {w:PStep} {j:Nat} (h1:p.drop j=x) (h2:x=w::r) (h3:Nq p=G8 p (w::r)):Nq p=((bif ae (Int.ofNat j) 0 then (mN w || sL w) else sL w) && G8 p r):=by
 obtain ⟨e1,e2⟩:=n7 h1 h2;have e3:=congrArg List.length (h1.trans h2);simp only [jC,cH] at e1 e2 e3;have f1:Nat.beq r.length p.length=false:=by cases h:Nat.beq r.length p.length with | false=>rfl | true=>grind [Nat.eq_of_beq_eq_true]
 rw [h3];unfold G8;rw [f1];cases j with
 | zero=>
  have f2:Nat.beq (w::r).length p.length=true:=by simp_all
  rw [f2];rfl
 | succ j=>
  have f2:Nat.beq (w::r).length p.length=false:=by cases h:Nat.beq (w::r).length p.length with | false=>rfl | true=>simp_all
  rw [f2];rfl
def cP:Int→aN
 | 0=> [98,111,111,107]
 | 1=> [112,97,114,116]
 | 2=> [115,101,99,116,105,111,110]
 | 3=> [112,97,114,97,103,114,97,112,104]
 | 4=> [116,97,98,108,101]
 | 5=> [114,111,119]
 | 6=> [99,101,108,108]
 | 7=> [110,111,116,101]
 | _=> []
def He:Int→List Int
 | 0=> [1,2]
 | 1=> [2]
 | 2=> [3,4,7]
 | 3=> [3,4,7]
 | 4=> [5]
 | 5=> [6]
 | _=> []
def i9 (p k:Int):Bool:=(He p).any (ae k)
theorem H9 {k:Int} (h:k<0∨7<k):cP k = []:=by
 unfold cP;grind
theorem Hd {k:Int} (h:k<0∨7<k):He k = []:=by
 unfold He;grind
end Go.Ev
namespace Go.Ev
open Go Go.RowKit Go.Proofs
structure ClassOf (p:UInt8→Bool) (q:Nat→Bool):Prop where
 low : ∀ c:UInt8,c.toNat<128→q c.toNat=ak (p c)
 high : ∀ n,128≤n→q n=true
 none : ∀ c:UInt8,128≤c.toNat→p c=false
theorem Td {s:aN} {i:Nat} (h:i<s.length) (h2:i<ByteArray.size ⟨⟨s⟩⟩):(ByteArray.mk ⟨s⟩)[i]'h2=gD s i:=by
 simp [gD,List.getD,lx h];rfl
theorem tD {p:UInt8→Bool} {q:Nat→Bool} (hc:ClassOf p q) (s:aN) : ∀ (f pos:Nat),pos≤eJ p s→s.length≤pos+f→Lib.idxFuncFrom q true ⟨⟨s⟩⟩ f pos=(bif Nat.beq (eJ p s) s.length then -1 else Int.ofNat (eJ p s))
 | f,pos,h1,h2=>by
  have hl:=Jf (p:=p) (s:=s);have hsz:ByteArray.size ⟨⟨s⟩⟩=s.length:=rfl;by_cases he:pos<s.length
  ·cases f with
   | zero=>omega
   | succ f=>
    unfold Lib.idxFuncFrom;rw [hsz,if_pos he];have hb:=Td he (by rw [hsz];exact he);by_cases hr:pos<eJ p s
    ·have hp:=Jg hr;have ha:(gD s pos).toNat<128:=by
      rcases fJ (gD s pos).toNat 128 with h | h
      ·exact h
      ·rw [hc.none _ h] at hp;cases hp
     rw [decode_ascii _ pos (by rw [hsz];exact he) (by rw [hb];exact ha),hb];rw [if_neg (by rw [hc.low _ ha,hp];decide)];exact tD hc s f (pos+1) hr (by omega)
    ·have e:eJ p s=pos:=by omega
     have hp:=EM (p:=p) (s:=s) (by omega);rw [e] at hp;have hq:q (Utf8.decode ⟨⟨s⟩⟩ pos).1=true:=by
      rcases fJ (gD s pos).toNat 128 with h | h
      ·rw [decode_ascii _ pos (by rw [hsz];exact he) (by rw [hb];exact h),hb,hc.low _ h,hp];rfl
      ·exact hc.high _ (decode_high _ pos (by rw [hsz];exact he) (by rw [hb];exact h)).1
     rw [if_pos hq,e];have f1:Nat.beq pos s.length=false:=by cases h:Nat.beq pos s.length with | false=>rfl | true=>have:=pX h;omega
     rw [f1];rfl
  ·have e:eJ p s=s.length:=by omega
   rw [Lib.idxFuncFrom_end _ _ _ _ _ (by rw [hsz];exact he),e,m0];rfl
theorem wv {p:UInt8→Bool} {q:Nat→Bool} (hc:ClassOf p q) (s:aN):Lib.idxFunc q true ⟨⟨s⟩⟩=(bif Nat.beq (eJ p s) s.length then -1 else Int.ofNat (eJ p s)):=tD hc s _ 0 (bE _) (by show s.length≤0+s.length;omega)
section
variable {P : Program} {G : eg} {f g : FuncId}
theorem Bl {pl:Pl} {M:de} {w:World} {h:AHeap} (hGT:io G) (hg2 : ∀ args w,(callFunc g args).run P w = .ok (.enter g args) w) {q:Nat→Bool} {qI:Int→Bool} (hp : ∀ r:Int,aP P G g [.int .i32 r] (.bool (qI r))) (hq : ∀ n:Nat,qI (.ofNat n)=q n)
  (hG:o9 G pl M) (hr:ct pl M h w):PredGrows P g #[] q w:=by
 intro W x _ hb;refine Calls.mono (aP.calls hGT hg2 (hp (.ofNat x)) hG (hr.below hb) (vs:=#[.int .i32 (.ofNat x)]) ⟨rfl,fun j y hj=>?_⟩) fun e w' ⟨⟨cv,pl',M',he,hv⟩,hb',_⟩=>?_
 ·cases j with
  | zero=>simp at hj;subst hj;exact .int _ _
  | succ j=>simp_all
 grind [cases VRel]
theorem zj (hGT:io G) (hE : ∀ vs w,(callFunc f vs).run P w = .ok (.enter f vs) w) (hg2 : ∀ args w,(callFunc g args).run P w = .ok (.enter g args) w) {q:Nat→Bool} {qI:Int→Bool}
  (hC : ∀ (s:ByteArray) (w:World),PredGrows P g #[] q w→Calls P f #[.string s, .func (.func g) #[] #[]] w fun e w'=>e = .returned (.int .i64 (Lib.idxFunc q true s))∧Below w.heap.size w w')
  (hp : ∀ r:Int,aP P G g [.int .i32 r] (.bool (qI r))) (hq : ∀ n:Nat,qI (.ofNat n)=q n) {p:UInt8→Bool} (hc:ClassOf p q) (s:aN) :
  aP P G f [.str s, .func (.func g) [] []] (.int .i64 (bif Nat.beq (eJ p s) s.length then -1 else Int.ofNat (eJ p s))):=by
 refine aP.below hE fun pl M w vs h hG hr hv=>?_
 obtain ⟨a,b,rfl,hv1,hv2⟩:=Aq hv;have e2:=yf hv2;subst e2;cases hv1
 rw [← wv hc s];exact ⟨_, .int _ _,hC ⟨⟨s⟩⟩ w (Bl hGT hg2 hp hq hG hr)⟩
theorem uV (hGT:io G) (hE : ∀ vs w,(callFunc f vs).run P w = .ok (.enter f vs) w) (hg2 : ∀ args w,(callFunc g args).run P w = .ok (.enter g args) w) {q:Nat→Bool} {qI:Int→Bool}
  (hC : ∀ (s:ByteArray) (w:World),PredGrows P g #[] q w→Calls P f #[.string s, .func (.func g) #[] #[]] w fun e w'=>e = .returned (.bool (decide (0≤Lib.idxFunc q true s)))∧Below w.heap.size w w')
  (hp : ∀ r:Int,aP P G g [.int .i32 r] (.bool (qI r))) (hq : ∀ n:Nat,qI (.ofNat n)=q n) {p:UInt8→Bool} (hc:ClassOf p q) (s:aN) :
  aP P G f [.str s, .func (.func g) [] []] (.bool (ak (s.all p))):=by
 refine aP.below hE fun pl M w vs h hG hr hv=>?_
 obtain ⟨a,b,rfl,hv1,hv2⟩:=Aq hv;have e2:=yf hv2;subst e2;cases hv1
 have e:ak (s.all p)=decide (0≤Lib.idxFunc q true ⟨⟨s⟩⟩):=by
  rw [wv hc s];cases ha:s.all p with
  | true=>rw [(uN (p:=p)).2 ha,m0];rfl
  | false=>
   have:Nat.beq (eJ p s) s.length=false:=by
    cases hb:Nat.beq (eJ p s) s.length with
    | false=>rfl
    | true=>grind [uN,Nat.eq_of_beq_eq_true]
   simp_all
 rw [e];exact ⟨_, .bool _,hC ⟨⟨s⟩⟩ w (Bl hGT hg2 hp hq hG hr)⟩
end
theorem GH {lo hi:Nat} (h:hi<128):ClassOf (Pu (Int.ofNat lo) (Int.ofNat hi)) fun n=>ar (Int.ofNat n) (Int.ofNat lo) || ar (Int.ofNat hi) (Int.ofNat n) where
 low c _:=by unfold Pu;simp_all
 high n hn:=by rw [show ar (Int.ofNat hi) (Int.ofNat n)=true from nQ (by grind)];simp_all
 none c hn:=VA (nQ (by grind))
end Go.Ev
namespace Go.Ev
open Go Go.RowKit
section
variable {P : Program} {G : eg} {f : FuncId}
theorem Hh {pl:Pl} {M:de} {w:World} {h:AHeap} (hr:ct pl M h w) {l:List aN} {a:Addr} {n cap:Nat} (hv:VRel pl M (.ps (l.map mD) false) (.slice (some a) n cap)) (hne:l≠ []) :
  n=l.length∧n≤cap∧a=⟨a.block,a.off,none⟩∧a.block<w.heap.size∧∀ (j:Nat) (x:ByteArray),(l.map fun s=>(⟨⟨s⟩⟩:ByteArray))[j]? = some x→w.cell? ⟨a.block,a.off+j,none⟩=some (.string x):=by
 cases hv with
 | ps hl ht hm hs hc=>
  rename_i sz c;have hne':l.map mD≠ []:=by simp_all
  obtain ⟨m1,m2,m3,m4⟩:=hm hne';obtain ⟨t,fr,hb⟩:=hr.imm _ _ m2;have hsz:sz=1:=by
   cases l with
   | nil=>simp_all
   | cons s r=>exact ((hs (mD s) (by simp)).1).symm
  subst hsz;refine ⟨by simp,hl,by rw [← m1],hr.memLt m2,fun j x hj=>?_⟩;rw [po] at hj;obtain ⟨s,e1,rfl⟩:=EX.1 hj;have hlt:j<l.length:=(gV.1 e1).1;have q:=hc j (mD s) 0 (.str s) (by simp_all) rfl;rw [Nat.mul_one,pJ] at q;have hin:a.off+j<c.size:=by grind
  have e2:c[a.off+j]? = some (c.getD (a.off+j) undef):=by simp_all
  simp only [World.cell?,hb];simp only [Option.isSome_none,gQ,if_false];rw [e2];cases hq:c.getD (a.off+j) undef <;> rw [hq] at q <;> cases q
  rfl
theorem L5 (hE : ∀ vs w,(callFunc f vs).run P w = .ok (.enter f vs) w)
  (hC : ∀ (bk o c:Nat) (xs:List ByteArray) (sep:ByteArray) (w:World),(∀ (j:Nat) x,xs[j]? = some x→w.cell? ⟨bk,o+j,none⟩=some (.string x))→bk<w.heap.size→xs.length≤140737488355328→xs.length≤c→
   (Lib.join (xs.map (·.data.toList)) sep.data.toList).length≤140737488355328→
   Calls P f #[.slice (some ⟨bk,o,none⟩) xs.length c, .string sep] w fun e w'=>e = .returned (.string ⟨(Lib.join (xs.map (·.data.toList)) sep.data.toList).toArray⟩)∧Below w.heap.size w w')
  (hN : ∀ (a:Option Addr) (c:Nat) (sep:ByteArray) (w:World),Calls P f #[.slice a 0 c, .string sep] w fun e w'=>e = .returned (.string ⟨#[]⟩)∧w'=w)
  (l:List aN) (sep:aN) (h1:l.length≤140737488355328) (h2:(Lib.join l sep).length≤140737488355328):aP P G f [.ls (l.map mD), .str sep] (.str (Lib.join l sep)):=by
 refine aP.below hE fun pl M w vs h hG hr hv=>?_
 obtain ⟨a,b,rfl,hv1,hv2⟩:=Aq hv;cases hv2
 have nil (p:Option Addr) (cap:Nat) (hl:l = []) : ∃ cv,VRel pl M (.str (Lib.join l sep)) cv∧Calls P f #[.slice p 0 cap, .string ⟨⟨sep⟩⟩] w fun e w'=>e = .returned cv∧Below w.heap.size w w':=by
  subst hl;exact ⟨.string ⟨⟨[]⟩⟩, .str _,Calls.mono (hN p cap ⟨⟨sep⟩⟩ w) fun e w' ⟨he,hw⟩=>⟨he,hw ▸ Below.refl _ _⟩⟩
 generalize hx:l.map mD=xs at hv1;cases hv1 with
 | lsn=>simp_all
 | lsp hp ht=>
  subst hx;by_cases hl:l = []
  ·subst hl;cases hp with
   | ps=>simp_all
  ·have hp':=hp;cases hp with
   | ps=>
    rename_i a cap sz c _ _ _ _ _;obtain ⟨e1,e2,e3,e4,e5⟩:=Hh hr hp' hl;have e6:(l.map fun s=>(⟨⟨s⟩⟩:ByteArray)).map (·.data.toList)=l:=by rw [List.map_map];exact List.map_id l
    have:=hC a.block a.off cap (l.map fun s=>⟨⟨s⟩⟩) ⟨⟨sep⟩⟩ w e5 e4 (by grind) (by grind) (by grind);rw [e6,← e3,bI,← e1] at this;exact ⟨.string ⟨⟨Lib.join l sep⟩⟩, .str _,this⟩
theorem EO (hE : ∀ vs w,(callFunc f vs).run P w = .ok (.enter f vs) w)
  (hC : ∀ (s:ByteArray) (c:Nat) (w:World),c≤9223372036854775807→s.size * c≤140737488355328→Calls P f #[.string s, .int .i64 c] w fun e w'=>e = .returned (.string ⟨(Lib.repeatL s.data.toList c).toArray⟩)∧Below w.heap.size w w')
  (s:aN) (c:Nat) (h1:c≤9223372036854775807) (h2:s.length * c≤140737488355328):aP P G f [.str s, .int .i64 (.ofNat c)] (.str (Lib.repeatL s c)):=by
 refine aP.below hE fun pl M w vs h hG hr hv=>?_
 obtain ⟨a,b,rfl,hv1,hv2⟩:=Aq hv;cases hv1;cases hv2
 exact ⟨.string ⟨⟨Lib.repeatL s c⟩⟩, .str _,hC ⟨⟨s⟩⟩ c w h1 h2⟩
theorem LJ (hE : ∀ vs w,(callFunc f vs).run P w = .ok (.enter f vs) w)
  (hC : ∀ (s cs:ByteArray) (w:World),s.size≤9223372036854775807→cs.size<4294967281→(∀ (j:Nat) b,cs.data.toList[j]? = some b→b.toNat<128)→
   Calls P f #[.string s, .string cs] w fun e w'=>e = .returned (.string ⟨(Lib.trimS s.data.toList cs.data.toList).toArray⟩)∧Below w.heap.size w w')
  (s cs:aN) (h1:s.length≤9223372036854775807) (h2:cs.length<4294967281) (h3 : ∀ b,b∈cs→b.toNat<128):aP P G f [.str s, .str cs] (.str (Lib.trimS s cs)):=by
 refine aP.below hE fun pl M w vs h hG hr hv=>?_
 obtain ⟨a,b,rfl,hv1,hv2⟩:=Aq hv;cases hv1;cases hv2
 exact ⟨.string ⟨⟨Lib.trimS s cs⟩⟩, .str _,hC ⟨⟨s⟩⟩ ⟨⟨cs⟩⟩ w h1 h2 fun j b hj=>h3 b (bm hj)⟩
end
end Go.Ev
namespace Go.Ev
open Go
structure PId where
 a:Int
 i:Int
 n:Int
 deriving Inhabited,DecidableEq
noncomputable def aV (p:PId):AV:= .agg [.int .i64 p.a, .int .i64 p.i, .int .i64 p.n]
theorem Ip (p:PId):(aV p).top=0:=rfl
def bY (u:TUnit):PId:=⟨u.act,u.item,u.n⟩
def bb (p q:PId):Bool:=ae p.a q.a && (ae p.i q.i && ae p.n q.n)
theorem tI {p q:PId} (h:bb p q=true):p=q:=by
 unfold bb at h;rw [bV,bV] at h;obtain ⟨a,b,c⟩:=p;obtain ⟨d,e,g⟩:=q;grind [ge]
theorem kg (p:PId):bb p p=true:=by simp [bb,aT]
abbrev fP (p:PId) (u:TUnit):Bool:=bb (bY u) p
theorem IW:KeyOf PId true 3 [(0,1),(1,1),(2,1)] aV bb where
 eq a b:=by
  show um [.int .i64 a.a, .int .i64 a.i, .int .i64 a.n] [.int .i64 b.a, .int .i64 b.i, .int .i64 b.n] [(0,1),(1,1),(2,1)]=_
  simp only [um,jX,Qa,Gk,kV,bb];cases h1:ae a.a b.a <;> cases h2:ae a.i b.i <;> cases h3:ae a.n b.n <;> rfl
 t a b h:=tI h
 refl a:=kg a
 same a:=by simp [aV,lI,jk,jp,kV,aT]
 top a:=rfl
mutual
def nU:TUnit→Nat
 | ⟨_,_,_,_,_,_,_,ks⟩=>1+dP ks
def dP:List TUnit→Nat
 | []=>0
 | k::r=>nU k+dP r
end
mutual
def mE:TUnit→Nat
 | ⟨_,_,_,_,_,_,_,ks⟩=>kY ks
def kY:List TUnit→Nat
 | []=>0
 | k::r=>Nat.max (1+mE k) (kY r)
end
mutual
def be:TUnit→List TUnit
 | ⟨x1,x2,x3,x4,x5,x6,x7,ks⟩=>⟨x1,x2,x3,x4,x5,x6,x7,ks⟩::dc ks
def dc:List TUnit→List TUnit
 | []=> []
 | k::r=>be k++dc r
end
mutual
def aC (p:PId):TUnit→List TUnit
 | ⟨x1,x2,x3,x4,x5,x6,x7,ks⟩=>bif fP p ⟨x1,x2,x3,x4,x5,x6,x7,ks⟩ then [⟨x1,x2,x3,x4,x5,x6,x7,ks⟩] else match cw p ks with
  | []=> []
  | y::t=>⟨x1,x2,x3,x4,x5,x6,x7,ks⟩::y::t
def cw (p:PId):List TUnit→List TUnit
 | []=> []
 | k::r=>match aC p k with
  | []=>cw p r
  | y::t=>y::t
end
theorem iP (u:TUnit):nU u=1+dP u.kids:=by cases u;rw [nU];rfl
theorem lF:dP []=0:=by rw [dP]
theorem bc (k:TUnit) (r:List TUnit):dP (k::r)=nU k+dP r:=by rw [dP]
theorem KA (u:TUnit):mE u=kY u.kids:=by cases u;rw [mE];rfl
theorem Cz:kY []=0:=by rw [kY]
theorem It (k:TUnit) (r:List TUnit):kY (k::r)=Nat.max (1+mE k) (kY r):=by rw [kY]
theorem dY (u:TUnit):be u=u::dc u.kids:=by cases u;rw [be];rfl
theorem fu:dc [] = []:=by rw [dc]
theorem bC (k:TUnit) (r:List TUnit):dc (k::r)=be k++dc r:=by rw [dc]
def dJ (u:TUnit):List PId:=(be u).map bY
def iW (l:List TUnit):List PId:=(dc l).map bY
theorem nZ (u:TUnit):dJ u=bY u::iW u.kids:=by unfold dJ iW;rw [dY];rfl
theorem qD:iW [] = []:=by unfold iW;rw [fu];rfl
theorem fR (k:TUnit) (r:List TUnit):iW (k::r)=dJ k++iW r:=by grind [dJ,iW,bC]
theorem C6 : ∀ {l:List TUnit} {k:TUnit},k∈l→nU k≤dP l
 | x::r,k,h=>by
  rw [bc];rcases fj.1 h with rfl | h
  ·omega
  ·have:=C6 h;omega
theorem g9 {u k:TUnit} (h:k∈u.kids):nU k<nU u:=by rw [iP u];have:=C6 h;omega
theorem H2 (u:TUnit):0<nU u:=by grind [iP]
theorem xl : ∀ (l:List TUnit),l.length≤dP l
 | []=>by simp_all
 | k::r=>by
  rw [bc,cH];have:=xl r;grind [H2]
theorem ba (u:TUnit):u.kids.length<nU u:=by grind [iP,xl]
theorem Li {l:List TUnit} (h : ∀ k,k∈l→(be k).length=nU k):(dc l).length=dP l:=by
 induction l with
 | nil=>rw [fu,lF];rfl
 | cons k r ih=>grind [bC,bc]
theorem E1 : ∀ (u:TUnit),(be u).length=nU u:=TUnit.ind fun u ih=>by grind [dY,iP,Li]
theorem tE (u:TUnit):(dJ u).length=nU u:=by grind [dJ,E1]
theorem Qs {l:List TUnit} {n:Nat} (h : ∀ k,k∈l→1+mE k≤n):kY l≤n:=by
 induction l with
 | nil=>grind [Cz]
 | cons k r ih=>grind [It]
theorem Dg : ∀ (u:TUnit),mE u<nU u:=TUnit.ind fun u ih=>by
 have:kY u.kids≤dP u.kids:=Qs fun k hk=>by have:=ih k hk;have:=C6 hk;omega
 grind [KA,iP]
section
variable {p : PId} {u w : TUnit} {r : List TUnit}
theorem gZ (u:TUnit):aC p u=bif fP p u then [u] else match cw p u.kids with | []=> [] | y::t=>u::y::t:=by cases u;rw [aC];rfl
theorem kx:cw p [] = []:=by rw [cw]
theorem oz (k:TUnit) (r:List TUnit):cw p (k::r)=match aC p k with | []=>cw p r | y::t=>y::t:=by rw [cw]
def cW (p:PId) (u:TUnit):Bool:=ak (aC p u).isEmpty
theorem za (h:cW p u=false):aC p u = []:=by grind [cW]
theorem vj (h:cW p u=true) : ∃ y t,aC p u=y::t:=by
 unfold cW at h;cases e:aC p u with
 | nil=>grind
 | cons x r=>simp_all
theorem ku (h:cW p u=true):aC p u≠ []:=by grind [vj]
theorem sC (h:fP p u=true):aC p u = [u]:=by rw [gZ,h];rfl
theorem Dx (h:fP p u=true):cW p u=true:=by unfold cW;rw [sC h];rfl
theorem ip (h:cW p w=false):cw p (w::r)=cw p r:=by rw [oz,za h]
theorem nE (h:cW p w=true):cw p (w::r)=aC p w:=by grind [vj,oz]
theorem NI (h:fP p u=false) (h2:cw p u.kids=cw p []):aC p u = []:=by rw [gZ,h,h2,kx];rfl
theorem FL (h:fP p u=false) (h2:cw p u.kids=cw p []):cW p u=false:=by unfold cW;rw [NI h h2];rfl
theorem I8 (h:fP p u=false) (h2:cw p u.kids=cw p (w::r)) (h3:cW p w=true):aC p u=u::aC p w:=by grind [gZ,nE,vj]
theorem Tw (h:fP p u=false) (h2:cw p u.kids=cw p (w::r)) (h3:cW p w=true):cW p u=true:=by unfold cW;rw [I8 h h2 h3];rfl
end
theorem lu {p:PId} : ∀ (u:TUnit),(aC p u).length≤nU u:=TUnit.ind fun u ih=>by
 rw [gZ];cases fP p u with
 | true=>exact H2 u
 | false=>
  have key : ∀ (r:List TUnit),(∀ k,k∈r→k∈u.kids)→(cw p r).length≤dP r:=by
   intro r;induction r with
   | nil=>grind [kx]
   | cons k r ihr=>grind [oz,bc]
  grind [iP]
def bw:TUnit:=⟨0,0,0,0, [], [], [], []⟩
noncomputable def eF (p:PId) (u:TUnit):TUnit:=bif cW p u then gD (aC p u) ((aC p u).length - 1) else bw
theorem JQ {p:PId} : ∀ (u:TUnit) (x:TUnit),x∈aC p u→x∈be u:=TUnit.ind fun u ih=>by
 intro x hx;rw [gZ] at hx;rw [dY];cases h:fP p u with
 | true=>simp_all
 | false=>
  rw [h] at hx;simp only [cond_false] at hx;have key : ∀ (r:List TUnit),(∀ k,k∈r→k∈u.kids)→∀ x,x∈cw p r→x∈dc r:=by
   intro r;induction r with
   | nil=>grind [kx]
   | cons k r ihr=>grind [oz,bC]
  grind
noncomputable def pq (p:Int × aN):AV:= .agg [.int .i64 p.1, .str p.2]
def mA (a b:Int × aN):Bool:=ae a.1 b.1 && dM a.2 b.2
theorem qk : ∀ (s:aN),dM s s=true
 | []=>rfl
 | c::r=>by simp only [dM,qk r,Bool.and_true];simp_all
theorem Gy : ∀ {a b:aN},dM a b=true→a=b
 | [], [],_=>rfl
 | c::r,d::q,h=>by
  simp only [dM,bV] at h;rw [Gy h.2,UInt8.toNat_inj.1 (pX h.1)]
theorem J4:KeyOf (Int × aN) true 2 [(0,1),(1,2)] pq mA where
 eq a b:=by
  show um [.int .i64 a.1, .str a.2] [.int .i64 b.1, .str b.2] [(0,1),(1,2)]=_
  simp only [um,jX,Qa,Gk,kV,mA];cases h1:ae a.1 b.1 <;> cases h2:dM a.2 b.2 <;> rfl
 t a b h:=by
  simp only [mA,bV] at h;grind [ge,Gy]
 refl a:=by simp [mA,aT,qk]
 same a:=by simp [pq,lI,jk,jp,kV,aT,qk]
 top a:=rfl
noncomputable def dK (b:Bool):AV:= .bool b
theorem zE (b:Bool):(dK b).top=0:=rfl
def Nh {K:Type} (keq:K→K→Bool) (k:K) (l:List (K × Bool)):Bool:=(ni keq k l).getD false
section
variable {K : Type} {ag : Bool} {sz : Nat} {lv : List (Nat × Nat)} {kenc : K → AV} {keq : K → K → Bool}
theorem Fw (hk:KeyOf K ag sz lv kenc keq) (m:List (K × Bool)) (k:K):eD (some (.bool false)) false (bj ag sz lv (kenc k) (b6 kenc dK m 0) 0)=some (.bool (Nh keq k m)):=by
 rw [zZ hk];unfold Nh;cases ni keq k m with
 | none=>rfl
 | some v=>rfl
theorem JZ (hk:KeyOf K ag sz lv kenc keq) (m:List (K × Bool)) (k:K):rJ (b6 kenc dK m 0) m.length (kenc k) (.bool true) (bj ag sz lv (kenc k) (b6 kenc dK m 0) 0)=some (b6 kenc dK (fk keq k true m) 0,(fk keq k true m).length):=Bz (f:=dK) hk k true m
end
def oY (l:List PWord):Bool:=ak (ar 256 (.ofNat l.length)) && pM (l.map fun w=>w.text)
def mg (pk:Int):List TUnit→List ((Int × aN) × Bool)→Bool
 | [],_=>true
 | k::r,m=>i9 pk k.kind && (ak (Nh mA (k.kind,k.label) m) && mg pk r (fk mA (k.kind,k.label) true m))
def lg (u:TUnit):Bool:=(bif ae u.kind 0 then dM u.label [] && ak (ar 0 (.ofNat (u.head.length+u.words.length))) else ak (dM (cP u.kind) []) && (jP u.label && (oY u.head && oY u.words))) && (mg u.kind u.kids [] && ak (ar 64 (.ofNat u.kids.length)))
def vt (q:TUnit→Bool) (u:TUnit):Bool:=(be u).all q
theorem xE (q:TUnit→Bool) (u:TUnit):vt q u=(q u && (dc u.kids).all q):=by grind [vt,dY]
theorem NY (q:TUnit→Bool):(dc []).all q=true:=by rw [fu];rfl
theorem Ak (q:TUnit→Bool) (k:TUnit) (r:List TUnit):(dc (k::r)).all q=(vt q k && (dc r).all q):=by rw [bC,List.all_append];rfl
def Bd (l:List PId) (m:List (PId × Bool)):List (PId × Bool):=l.foldl (fun m p=>fk bb p true m) m
def bG:PId:=⟨0,0,0⟩
def PH (u:TUnit):Bool:=(Nh bb bG (Bd (dJ u) []) && ae (.ofNat (Bd (dJ u) []).length) 1) || (ae (.ofNat (Bd (dJ u) []).length) (.ofNat (dJ u).length) && (ae u.kind 0 == fP bG u))
def kj (u:TUnit):Bool:=vt lg u && (ak (ar 8 (.ofNat (mE u))) && (ak (ar 1024 (.ofNat (nU u))) && PH u))
theorem bg {u k:TUnit} (h:k∈u.kids) {x:TUnit} (hx:x∈be k):x∈be u:=by
 rw [dY];refine fW _ ?_;generalize u.kids=l at h;induction l with
 | nil=>grind
 | cons y r ih=>grind [bC]
theorem dX (u:TUnit):u∈be u:=by grind [dY]
theorem J3 {u k:TUnit} (h:k∈u.kids):k∈be u:=bg h (dX k)
end Go.Ev
namespace Go.Ev
open Go
def b9 {α:Type} (q:α→α→Bool):List α→List α→Bool
 | [], []=>true
 | x::l,y::m=>q x y && b9 q l m
 | _,_=>false
theorem kT {α:Type} {q:α→α→Bool} : ∀ {l m:List α},l.length≠m.length→b9 q l m=false
 | [], [],h=>absurd rfl h
 | [],y::m,_=>rfl
 | x::l, [],_=>rfl
 | x::l,y::m,h=>by
  unfold b9;rw [kT (l:=l) (m:=m) (fun e=>h (by simp [e]))];exact xI _
theorem Gv {α:Type} {q:α→α→Bool} (hq : ∀ a b,q a b=true↔a=b) : ∀ {l m:List α},b9 q l m=true↔l=m
 | [], []=>by simp [b9]
 | [],y::m=>by simp [b9]
 | x::l, []=>by simp [b9]
 | x::l,y::m=>by simp [b9,hq,Gv hq (l:=l) (m:=m)]
section
variable {α : Type} [Inhabited α] {q : α → α → Bool} {l m x r : List α} {w : α} {j : Nat}
omit [Inhabited α] in
theorem zu:b9 q l m=b9 q l (m.drop (l.length - l.length)):=by simp_all
theorem xB {m:List α} {j:Nat} (h:j<m.length):m.drop j=gD m j::m.drop (j+1):=by grind [List.drop_eq_getElem_cons,gD]
theorem iJ (h1:l.drop j=x) (h2:x=w::r) (hl:l.length=m.length) (h3:b9 q l m=b9 q (w::r) (m.drop (l.length - (w::r).length))):b9 q l m=(q w (gD m j) && b9 q r (m.drop (l.length - r.length))):=by
 have e:=congrArg List.length (h1.trans h2);simp only [jC,cH] at e;rw [h3,(n7 h1 h2).1,(n7 h1 h2).2,xB (by omega),b9]
omit [Inhabited α] in
theorem mC (hl:l.length=m.length) (h3:b9 q l m=b9 q [] (m.drop (l.length - ([]:List α).length))):b9 q l m=true:=by rw [h3,gy,Nat.sub_zero,hl,List.drop_length];rfl
end
def Ad (a b:PWord):Bool:=dM a.text b.text && (ae a.act b.act && (ae a.item b.item && ae a.at_ b.at_))
theorem Tu (a b:PWord):Ad a b=true↔a=b:=by
 obtain ⟨t,x,y,z⟩:=a;obtain ⟨t',x',y',z'⟩:=b;simp only [Ad,bV,PWord.mk.injEq];constructor
 ·grind [Gy,ge]
 ·grind [qk,aT]
mutual
def Ae:TUnit→TUnit→Bool
 | ⟨a,i,n,k,l,h,w,ks⟩,v=>bb ⟨a,i,n⟩ (bY v) && (ae k v.kind && (dM l v.label && (b9 Ad h v.head && (b9 Ad w v.words && MF ks v.kids))))
def MF:List TUnit→List TUnit→Bool
 | [], []=>true
 | k::r, []=>false
 | k::r,x::s=>Ae k x && MF r s
 | [],x::s=>false
end
theorem Ih (u v:TUnit):Ae u v=(bb (bY u) (bY v) && (ae u.kind v.kind && (dM u.label v.label && (b9 Ad u.head v.head && (b9 Ad u.words v.words && b9 Ae u.kids v.kids))))):=by
 have key : ∀ (l m:List TUnit),MF l m=b9 Ae l m:=by
  intro l;induction l with
  | nil=>intro m;cases m <;> (rw [MF];rfl)
  | cons x l ih=>intro m;cases m with | nil=>rw [MF];rfl | cons y m=>rw [MF,ih];rfl
 cases u
 rw [Ae,key];rfl
theorem TA : ∀ (u v:TUnit),Ae u v=true↔u=v:=TUnit.ind fun u ih=>by
 have key : ∀ (l:List TUnit),(∀ k,k∈l→k∈u.kids)→∀ m,b9 Ae l m=true↔l=m:=by
  intro l;induction l with
  | nil=>grind [b9]
  | cons x l ihl=>
   intro hm m;cases m with
   | nil=>simp [b9]
   | cons y m=>grind [b9]
 intro v;rw [Ih];simp only [bV,key u.kids (fun _ h=>h),Gv Tu];obtain ⟨a,i,n,k,l,h,w,ks⟩:=u;obtain ⟨a',i',n',k',l',h',w',ks'⟩:=v;simp only [TUnit.mk.injEq,bY,TUnit.act,TUnit.item,TUnit.n,TUnit.kind,TUnit.label,TUnit.head,TUnit.words,TUnit.kids];constructor
 ·grind [tI,ge,Gy]
 ·rintro ⟨rfl,rfl,rfl,rfl,rfl,rfl,rfl,rfl⟩
  exact ⟨kg _,aT _,qk _,rfl,rfl,rfl⟩
end Go.Ev
namespace Go.Ev
open Go
def Hq (u v:AV):Prop:=(Sc v→Sc u)∧Les u.cells v.cells
theorem Hq.refl (v:AV):Hq v v:=⟨id,Les.refl _⟩
theorem Hq.one {u v:AV} (hu:u.cells = [u]) (hv:v.cells = [v]) (hs:cC u=true) (h:Le u v):Hq u v:=⟨fun _ y hy=>by simp_all,by rw [hu,hv];exact .cons h .nil⟩
inductive LesC:List AV→List AV→Prop
 | nil:LesC [] []
 | cons {u v:AV} {us vs:List AV} (h:Hq u v) (k:LesC us vs):LesC (u::us) (v::vs)
theorem LesC.len {us vs:List AV} (h:LesC us vs):us.length=vs.length:=by
 induction h with
 | nil=>rfl
 | cons _ _ ih=>simp_all
theorem LesC.at_ {us vs:List AV} (h:LesC us vs) : ∀ (j:Nat) (u:AV),us[j]? = some u→∃ v,vs[j]? = some v∧Hq u v:=by
 induction h with
 | nil=>simp_all
 | cons h k ih=>grind
theorem DR {xs ys:List AV} {t:Bool} (h:LesC xs ys):Le (.ps xs false) (.ps ys t):=fun pl M v hv=>by
 cases hv with
 | @ps _ _ a cap sz c hl ht hm hs hc=>
  rw [← h.len];refine .ps (sz:=sz) (c:=c) (by rw [h.len];omega) (fun h=>by grind) (fun hx=>?_) (fun x hx=>?_) fun i x j y hx hy=>?_
  ·have:ys≠ []:=fun e=>hx (pt (by rw [h.len,e];rfl))
   rw [h.len];simp_all
  ·obtain ⟨i,hi⟩:=A9 hx;obtain ⟨y,h1,h2,h3⟩:=h.at_ i x hi;have:=hs y (bm h1);exact ⟨h3.len.trans this.1,h2 this.2⟩
  ·obtain ⟨z,h1,_,h3⟩:=h.at_ i x hx;obtain ⟨d,h4,h5⟩:=h3.at_ j y hy;exact h5 _ _ _ (hc i z j d h1 h4)
theorem Wd {xs ys:List AV} {t:Bool} (h:LesC xs ys) (h0:aq xs=0):Le (.ls xs) (.ps ys t):=fun pl M v hv=> .lsp (DR h pl M v hv) h0
theorem We {xs ys:List AV} (h:LesC xs ys) (h0:aq xs=0):Le (.ls xs) (.ls ys):=fun pl M v hv=>by
 cases hv with
 | lsn=>cases h;exact .lsn
 | lsp hv _=>exact .lsp (DR h pl M v hv) h0
theorem Le.pls {x:AV} {xs ys:List AV} (h:LesC (x::xs) ys):Le (.ps (x::xs) false) (.ls ys):=fun pl M v hv=>by
 cases hv with
 | lsn=>cases h
 | lsp hv _=>exact DR h pl M v hv
mutual
def Ac:AV→AV→Bool
 | .ls xs, .nils=>xs.isEmpty
 | .ls xs, .ps ys _=>kZ xs ys && Nat.beq (aq xs) 0
 | .ls xs, .ls ys=>kZ xs ys && Nat.beq (aq xs) 0
 | .ps (x::xs) false, .ls ys=>kZ (x::xs) ys
 | .ps xs false, .ps ys _=>kZ xs ys
 | .agg us, .agg vs=>kZ us vs && us.all cC
 | u,v=>AV.same u v
def kZ:List AV→List AV→Bool
 | [], []=>true
 | a::us,b::vs=>Ac a b && kZ us vs
 | _,_=>false
end
theorem Hq.same {u v:AV} (h:AV.same u v=true):Le u v∧Hq u v:=by grind [AV.same_eq,Le.refl,Hq.refl]
mutual
theorem vA : ∀ (u v:AV),Ac u v=true→Le u v∧Hq u v:=fun u v h=>by
 unfold Ac at h;split at h
 ·rename_i xs;have e:xs = []:=by simp_all
  subst e;exact ⟨Le.nils,Hq.one rfl rfl rfl Le.nils⟩
 ·rename_i xs ys t;have h:=ph.1 h;have k:=Wd (t:=t) (jc xs ys h.1).2 (pX h.2);exact ⟨k,Hq.one rfl rfl rfl k⟩
 ·rename_i xs ys;have h:=ph.1 h;have k:=We (jc xs ys h.1).2 (pX h.2);exact ⟨k,Hq.one rfl rfl rfl k⟩
 ·rename_i x xs ys;have k:=Le.pls (jc (x::xs) ys h).2;exact ⟨k,Hq.one rfl rfl rfl k⟩
 ·rename_i xs ys t;have k:=DR (t:=t) (jc xs ys h).2;exact ⟨k,Hq.one rfl rfl rfl k⟩
 ·rename_i us vs;have h:=ph.1 h;have k:=jc us vs h.1;exact ⟨aO k.1 h.2,fun _ y hy=>nr.1 h.2 y hy,k.1⟩
 ·exact Hq.same h
theorem jc : ∀ (us vs:List AV),kZ us vs=true→Les us vs∧LesC us vs:=fun us vs h=>by
 unfold kZ at h;split at h
 ·exact ⟨.nil, .nil⟩
 ·rename_i a us b vs;have h:=ph.1 h;have h1:=vA a b h.1;have h2:=jc us vs h.2;exact ⟨.cons h1.1 h2.1, .cons h1.2 h2.2⟩
 ·grind
end
section
variable {P : Program} {G : eg} {f : FuncId} {a b : List AV} {u v : AV}
theorem aP.args (h:aP P G f a v) (hl:Les a b):aP P G f b v:=fun hp pl M w vs hg hr hv=>h hp pl M w vs hg hr (hv.le hl)
theorem aP.lessB (h:aP P G f a v) (hl:Ac u v=true):aP P G f a u:=h.less (vA _ _ hl).1
theorem Vk (a b:Nat):BG (.ofNat a) (.ofNat b) = .ofNat (Nat.max a b):=by
 unfold BG;cases h:ar (.ofNat a) (.ofNat b) with
 | true=>
  have h:=au h;grind
 | false=>
  have h:=aB h;simp_all
theorem Qc {xs ys:List AV} {i t:Nat} {r:List (Nat × Nat)} {x y:AV} {c:Bool} (hx:jX xs i=some x) (hy:jX ys i=some y) (h:Gk t x y=some true) (k:um xs ys r=some c):um xs ys ((i,t)::r)=some c:=by grind [um,Qa,vb]
theorem mr {xs ys:List AV} {i t:Nat} {r:List (Nat × Nat)} {x y:AV} {e c:Bool} (hx:jX xs i=some x) (hy:jX ys i=some y) (h:Gk t x y=some e) (k:um xs ys r=some c):um xs ys ((i,t)::r)=some (e && c):=by
 simp only [um,hx,hy,Qa,h];cases e with
 | true=>exact k
 | false=>rfl
theorem zt {xs ys:List AV} {i t:Nat} {r:List (Nat × Nat)} {x y:AV} {e:Bool} (hx:jX xs i=some x) (hy:jX ys i=some y) (h:Gk t x y=some e) (k:um xs ys r=some true):um xs ys ((i,t)::r)=some e:=by
 simp only [um,hx,hy,Qa,h];cases e with
 | true=>exact k
 | false=>rfl
theorem Qv (a:Int):Gk 1 (.int .i64 a) (.int .i64 a)=some true:=congrArg some (aT a)
theorem DF {d:Option TypeDesc} {n:Nat} {l:List (Nat × Nat)} {xs ys:List AV} {c:Bool} {H:AHeap} (hn:(Nat.beq xs.length n && Nat.beq ys.length n)=true) (hl:um xs ys l=some c) :
  bz H (RD (pc .eql d (some true) (some n) (some l)) (some (.agg xs)) (some (.agg ys)))=some (.val (.bool c) H):=by
 grind [RD,pc,V2,om,bz]
theorem ud {d:Option TypeDesc} {n:Nat} {l:List (Nat × Nat)} {xs ys:List AV} {c:Bool} {H:AHeap} (hn:(Nat.beq xs.length n && Nat.beq ys.length n)=true) (hl:um xs ys l=some c) :
  bz H (RD (pc .neq d (some true) (some n) (some l)) (some (.agg xs)) (some (.agg ys)))=some (.val (.bool (!c)) H):=by
 grind [RD,pc,V2,om,bz]
def wy:List (FuncId × List AV × AV)→X1
 | [],_,_,_=>none
 | x::r,g,b,h=>match Nat.beq g x.1 with
  | true=>(match kZ x.2.1 b with | true=>some (x.2.2,h) | false=>wy r g b h)
  | false=>wy r g b h
theorem zk : ∀ {L:List (FuncId × List AV × AV)} {g:FuncId} {h h1:AHeap} {v1:AV},wy L g b h=some (v1,h1)→∃ x,x∈L∧g=x.1∧kZ x.2.1 b=true∧v1=x.2.2∧h1=h
 | [],_,_,_,_,e=>by grind [wy]
 | x::r,g,h,h1,v1,e=>by
  unfold wy at e;have next:wy r g b h=some (v1,h1)→∃ y,y∈x::r∧g=y.1∧kZ y.2.1 b=true∧v1=y.2.2∧h1=h:=fun e=>
   let ⟨y,k,q⟩:=zk e
   ⟨y,fW _ k,q⟩
  grind [Nat.eq_of_beq_eq_true]
theorem PL {C:Cfg} {L:List (FuncId × List AV × AV)} (hC:C.hook=wy L) (hL : ∀ x,x∈L→aP C.P C.G x.1 x.2.1 x.2.2):IM C:=fun g b hp v1 h1 e pl M w vs hg hr hv=>by
 rw [hC] at e;obtain ⟨x,hx,rfl,hl,rfl,rfl⟩:=zk e;rcases hL x hx h1 pl M w vs hg hr (hv.le (jc _ _ hl).1) with ⟨k1,k2⟩ | ⟨cv,w',v2,h2,k1,⟨rfl,rfl⟩,k3⟩
 ·refine .inl ⟨k1,fun cs=>?_⟩;obtain ⟨en,w',fr,⟨cv,v2,h2,e1,⟨rfl,rfl⟩,k3⟩,r⟩:=k2 cs;grind
 ·exact .inr ⟨cv,w',k1,k3⟩
def WD (v:AV):Option (AV × AHeap)→Bool
 | some (u,_)=>Ac v u && Nat.beq u.top 0
 | none=>false
theorem aP.closed {C:Cfg} {k:Nat} (hG:io C.G) (ev:cq C.P C.G (iy C k)) (ht:aq a=0) (h:WD v (iy C k f a AHeap.none)=true):aP C.P C.G f a v:=by
 cases hx:iy C k f a AHeap.none with
 | none=>rw [hx] at h;cases h
 | some r=>
  obtain ⟨u,h1⟩:=r;rw [hx] at h;have h:=ph.1 h;exact (oJ hG ht (pX h.2) ((aG.of ev hx).mono fun v1 _ e=>e.1)).lessB h.1
end
end Go.Ev
namespace Go.Ev
open Go
theorem aP.ls0 {P:Program} {G:eg} {f:FuncId} {r:List AV} {v:AV} (h1:aP P G f (.nils::r) v) (h2:aP P G f (.ps [] false::r) v):aP P G f (.ls []::r) v:=fun h=>D0 (fun _ _ _ hv=>VRels.first hv fun _ hv=>hv.ls0) (h1 h) (h2 h)
theorem QV {p:PId} {u:TUnit} (h:cW p u=true):eF p u∈aC p u:=by
 unfold eF;rw [h];have:=pn.2 (ku h);grind [iw]
theorem Ra : ∀ (u:TUnit),mI u=(be u).flatMap m5:=by
 refine TUnit.ind fun u ih=>?_
 rw [K4,dY,List.flatMap_cons];congr 1;have key : ∀ (l:List TUnit),(∀ k,k∈l→k∈u.kids)→kU l=(dc l).flatMap m5:=by
  intro l;induction l with
  | nil=>intro _;rw [Cl,fu];rfl
  | cons k r ihr=>grind [sf,bC]
 simp_all
theorem NL {p:PId} : ∀ (u:TUnit),cW p u=true→bY (eF p u)=p:=by
 refine TUnit.ind fun u ih h=>?_
 unfold eF;rw [h];simp only [cond_true];cases hh:fP p u with
 | true=>rw [sC hh];exact tI hh
 | false=>
  have key : ∀ (r:List TUnit),(∀ k,k∈r→k∈u.kids)→cw p r≠ []→bY (gD (cw p r) ((cw p r).length - 1))=p:=by
   intro r;induction r with
   | nil=>grind [kx]
   | cons k r ihr=>grind [nE,eF,ip]
  have k2:=key u.kids fun _ h=>h
  obtain ⟨y,t,e⟩:=vj h;rw [gZ,hh] at e ⊢;grind [gD]
theorem KW {p:PId} : ∀ (u:TUnit),(∃ x,x∈be u∧bY x=p)→cW p u=true:=by
 refine TUnit.ind fun u ih ⟨x,hx,hp⟩=>?_
 cases hh:fP p u with
 | true=>grind [Dx]
 | false=>
  rw [dY] at hx;rcases fj.1 hx with rfl | hx
  ·simp_all [fP,kg]
  ·have key : ∀ (l:List TUnit),(∀ k,k∈l→k∈u.kids)→x∈dc l→cw p l≠ []:=by
    intro l;induction l with
    | nil=>grind [fu]
    | cons k r ihr=>grind [bC,cW,nE,ip]
   grind [cW,gZ]
theorem BE {α β:Type} {f:α→β} : ∀ {l:List α},(l.map f).Nodup→∀ {x y:α},x∈l→y∈l→f x=f y→x=y
 | a::l,h,x,y,hx,hy,e=>by
  rw [eW,List.nodup_cons] at h;rcases fj.1 hx with h1 | h1
  ·grind
  ·rcases fj.1 hy with h2 | h2
   ·simp_all
   ·exact BE h.2 h1 h2 e
theorem CY {K V:Type} {kenc:K→AV} {f:V→AV} : ∀ (l:List (K × V)) (i:Nat),(b6 kenc f l i).length=l.length
 | [],_=>rfl
 | (k,v)::r,i=>by rw [b6,cH,CY r,cH]
theorem Lk (m:List (PId × Bool)):Bd [] m=m:=rfl
theorem Qe {n:Nat} (h:0<n):ae (Int.ofNat n) 0=false:=by grind [qL]
def CX (p:PId):TUnit→Option TUnit:=fun u=>(be u).find? (fP p)
theorem RA {p:PId} : ∀ (u:TUnit),(cW p u=true→CX p u=some (eF p u))∧(cW p u=false→CX p u=none):=by
 refine TUnit.ind fun u ih=>?_
 unfold CX;rw [dY];cases hh:fP p u with
 | true=>
  rw [List.find?_cons_of_pos (by omega)];refine ⟨fun h=>?_,fun h=>by grind [Dx]⟩;unfold eF;rw [h,sC hh];rfl
 | false=>
  rw [List.find?_cons_of_neg (by simp_all)];have key : ∀ (r:List TUnit),(∀ k,k∈r→k∈u.kids)→(cw p r≠ []→(dc r).find? (fP p)=some (gD (cw p r) ((cw p r).length - 1)))∧(cw p r = []→(dc r).find? (fP p)=none):=by
   intro r;induction r with
   | nil=>grind [kx,fu]
   | cons k r ihr=>
    intro hm;have ik:=ih k (hm k (fU ..));have ir:=ihr fun z hz=>hm z (fW _ hz)
    rw [bC,List.find?_append];cases hk:cW p k with
    | true=>grind [CX,nE,ku,eF]
    | false=>grind [CX,ip]
  have k2:=key u.kids fun _ h=>h
  refine ⟨fun h=>?_,fun h=>?_⟩
  ·obtain ⟨y,t,e⟩:=vj h;unfold eF;rw [h,gZ,hh];rw [gZ,hh] at e;grind [gD]
  ·have e:=za h;grind [gZ]
theorem gq (p:PId) (u:TUnit):fP p u=true↔bY u=p:=⟨tI,fun h=>by simp_all [fP,kg]⟩
theorem HG {y x:TUnit} : ∀ (u:TUnit),y∈be u→x∈be y→x∈be u:=by
 refine TUnit.ind fun u ih h hx=>?_
 rw [dY] at h ⊢;rcases fj.1 h with rfl | h
 ·grind [dY]
 ·refine fW _ ?_;have key : ∀ (l:List TUnit),(∀ k,k∈l→k∈u.kids)→y∈dc l→x∈dc l:=by
   intro l;induction l with
   | nil=>grind [fu]
   | cons k r ihr=>grind [bC]
  simp_all
theorem iE {y x u:TUnit} (h:y∈be u) (hx:x∈be y):x∈be u:=HG u h hx
theorem Oo {x:TUnit} : ∀ (u:TUnit),x∈be u→nU x≤nU u:=by
 refine TUnit.ind fun u ih h=>?_
 rw [dY] at h;rcases fj.1 h with rfl | h
 ·omega
 ·have key : ∀ (l:List TUnit),(∀ k,k∈l→k∈u.kids)→x∈dc l→nU x<nU u:=by
   intro l;induction l with
   | nil=>grind [fu]
   | cons k r ihr=>grind [bC,Nat.lt_of_le_of_lt,g9]
  grind
theorem dD {x u:TUnit} (h:x∈be u):nU x≤nU u:=Oo u h
section
variable {p : PId} {u w : TUnit} {r : List TUnit}
end
end Go.Ev
namespace Go.Ev
open Go
def j5 (a b:PStep):Bool:=ae a.kind b.kind && dM a.label b.label
mutual
def Db:PItem→PItem→Bool
 | ⟨k,a,t,w,n,u,o,ne,l,f,s,ac,im,d,e,bs⟩,v=>
  (ae k v.kind && (ae w v.where_ && (ae n v.nth_ && (ae ac v.act && (ae im v.item && ae d v.day)))))
  && ((dM l v.label && (dM f v.for_ && (dM e v.event && (ae s.kind v.start.kind && (ae s.day v.start.day && dM s.event v.start.event)))))
  && ((b9 j5 a v.at_ && (b9 j5 t v.to && (b9 dM o v.old && b9 dM ne v.new)))
  && (Ae u v.unit && CJ bs v.by_)))
def CJ:List PItem→List PItem→Bool
 | [], []=>true
 | k::r, []=>false
 | k::r,x::s=>Db k x && CJ r s
 | [],x::s=>false
end
theorem Qd : ∀ (l m:List PItem),CJ l m=b9 Db l m:=by
 intro l;induction l with
 | nil=>intro m;cases m <;> (rw [CJ];rfl)
 | cons x l ih=>intro m;cases m with | nil=>rw [CJ];rfl | cons y m=>rw [CJ,ih];rfl
theorem TB (u v:PItem):Db u v=((ae u.kind v.kind && (ae u.where_ v.where_ && (ae u.nth_ v.nth_ && (ae u.act v.act && (ae u.item v.item && ae u.day v.day)))))
  && ((dM u.label v.label && (dM u.for_ v.for_ && (dM u.event v.event && (ae u.start.kind v.start.kind && (ae u.start.day v.start.day && dM u.start.event v.start.event)))))
  && ((b9 j5 u.at_ v.at_ && (b9 j5 u.to v.to && (b9 dM u.old v.old && b9 dM u.new v.new)))
  && (Ae u.unit v.unit && b9 Db u.by_ v.by_)))):=by
 cases u
 rw [Db,Qd];rfl
noncomputable def C4 (s:aN):Bool:=ak (ar (.ofNat s.length) 1) && (ak (ar 16 (.ofNat s.length)) && (ak (ar (.ofNat (gD s 0).toNat) 97) && (ak (ar 122 (.ofNat (gD s 0).toNat)) && dM (Lib.trimS s [97,98,99,100,101,102,103,104,105,106,107,108,109,110,111,112,113,114,115,116,117,118,119,120,121,122,48,49,50,51,52,53,54,55,56,57,45]) [])))
def qS (n:Bool) (s:PStart):Bool:=bif ae s.kind 0 || ae s.kind 2 then ae s.day 0 && dM s.event [] else bif ae s.kind 1 then (ak (ar s.day 0) && ak (ar 1048576 s.day)) && dM s.event [] else bif ae s.kind 3 then ae s.day 0 && n else false
end Go.Ev
namespace Go.Ev
open Go
def bi (s:PStep) (u:TUnit):Bool:=ae u.kind s.kind && dM u.label s.label
def gY:List PStep→List TUnit→List TUnit
 | [],l=>l
 | s::r,l=>gY r (l.flatMap fun x=>x.kids.filter (bi s))
def dL (u:TUnit) (p:List PStep):List TUnit:=bif kq p then (match p with
 | []=> [u]
 | s::r=>gY r (bif mN s then [u] else (be u).filter (bi s))) else []
noncomputable def aE (u:TUnit) (p:List PStep):PId × Int:=match dL u p with
 | []=>(bG,7)
 | [x]=>(bY x,0)
 | _=>(bG,8)
def jY (p:PId) (u:TUnit):Bool:=ak (ar (.ofNat (aC p u).length) 2)
noncomputable def Hc (p:PId) (u:TUnit):TUnit:=gD (aC p u) ((aC p u).length - 2)
noncomputable def tJ (p:PId) (u:TUnit):PId:=bif jY p u then bY (Hc p u) else bG
noncomputable def pP (p:PId) (u:TUnit):Int:=bif jY p u then di (cW p) (Hc p u).kids 0 else -1
def pd (p:PId) (u:TUnit):List PId:=(((aC p u).take ((aC p u).length - 1)).map bY).reverse
structure PSpot where
 id:PId
 at_:Int
 deriving Inhabited
noncomputable def e9 (s:PSpot):AV:= .agg [.int .i64 s.id.a, .int .i64 s.id.i, .int .i64 s.id.n, .int .i64 s.at_]
def dr:PSpot:=⟨bG,0⟩
noncomputable def nK (u:TUnit) (p:PId) (n:Int):PSpot × Int:=bif jY p u then (⟨tJ p u,pP p u+n⟩,0) else (dr,9)
noncomputable def dz (w:Int) (u:TUnit) (p:PId):PSpot × Int:=bif ae w 0 then (⟨p,0⟩,0) else bif ae w 1 then (⟨p, .ofNat (eF p u).kids.length⟩,0) else bif ae w 2 then nK u p 1 else nK u p 0
def iY (n:Int):Bool:=ak (ar n 0) && ak (ar 3 n)
def ch (act item:Int):List aN→Nat→List PWord
 | [],_=> []
 | s::r,n=>⟨s,act,item, .ofNat n⟩::ch act item r (n+1)
def bN (l:List PWord):List aN:=l.map fun w=>w.text
theorem fC (a i:Int) : ∀ (l:List aN) (n:Nat),(ch a i l n).length=l.length
 | [],_=>rfl
 | s::r,n=>by rw [ch,cH,fC a i r,cH]
mutual
def cL (a i:Int):TUnit→Nat→Nat→TUnit
 | ⟨_,_,_,k,l,h,ws,ks⟩,n,w=>⟨a,i, .ofNat (n+1),k,l,ch a i (bN h) w,ch a i (bN ws) (w+h.length),eR a i ks (n+1) (w+h.length+ws.length)⟩
def eR (a i:Int):List TUnit→Nat→Nat→List TUnit
 | [],_,_=> []
 | k::r,n,w=>cL a i k n w::eR a i r (n+nU k) (w+(mI k).length)
end
theorem Bb (a i:Int) (u:TUnit) (n w:Nat):cL a i u n w=⟨a,i, .ofNat (n+1),u.kind,u.label,ch a i (bN u.head) w,ch a i (bN u.words) (w+u.head.length),eR a i u.kids (n+1) (w+u.head.length+u.words.length)⟩:=by cases u;rw [cL];rfl
theorem El (a i:Int) (n w:Nat):eR a i [] n w = []:=by rw [eR]
theorem CA (a i:Int) (k:TUnit) (r:List TUnit) (n w:Nat):eR a i (k::r) n w=cL a i k n w::eR a i r (n+nU k) (w+(mI k).length):=by rw [eR]
def vZ (part:List aN):Nat→List aN→Nat→List Nat
 | 0,_,_=> []
 | f+1,l,i=>bif Nat.ble (i+part.length) l.length then (bif b9 dM ((l.drop i).take part.length) part then i::vZ part f l (i+part.length) else vZ part f l (i+1)) else []
def tz (l part:List aN):List Nat:=bif part.isEmpty then [] else vZ part (l.length+1) l 0
end Go.Ev
namespace Go.Ev
open Go
def oD (w:PWord):Bool:=ak (ae w.act 0 && (ae w.item 0 && ae w.at_ 0))
def Cf (x:TUnit):Bool:=fP bG x && (ak (x.head.any oD) && ak (x.words.any oD))
def G0 (u:TUnit):Bool:=kj u && vt Cf u
def gm (w:PWord):PWord:=⟨w.text,0,0,0⟩
mutual
def cA:TUnit→TUnit
 | ⟨_,_,_,k,l,h,w,ks⟩=>⟨0,0,0,k,l,h.map gm,w.map gm,sH ks⟩
def sH:List TUnit→List TUnit
 | []=> []
 | k::r=>cA k::sH r
end
theorem yX : ∀ (l:List TUnit),sH l=l.map cA
 | []=>by rw [sH];rfl
 | k::r=>by rw [sH,yX r];rfl
theorem lT (u:TUnit):cA u=⟨0,0,0,u.kind,u.label,u.head.map gm,u.words.map gm,u.kids.map cA⟩:=by cases u;rw [cA,yX];rfl
theorem PM {p:PId} {u:TUnit} (h:cW p u=false):jY p u=false:=by unfold jY;rw [za h];rfl
theorem VZ {p:PId} {u:TUnit} (h:jY p u=false):tJ p u=bG:=by unfold tJ;simp_all
theorem OE {p:PId} {u:TUnit} (h:jY p u=false):pP p u = -1:=by unfold pP;simp_all
theorem HH {p:PId} {u:TUnit} (h:jY p u=true):tJ p u=bY (Hc p u):=by unfold tJ;simp_all
theorem HI {p:PId} {u:TUnit} (h:jY p u=true):pP p u=di (cW p) (Hc p u).kids 0:=by unfold pP;simp_all
def n9 (p:PId) (u:TUnit) (k:Nat):List PId:=((((aC p u).take ((aC p u).length - 1)).drop k).map bY).reverse
theorem DE (p:PId) (u:TUnit):n9 p u 0=pd p u:=rfl
theorem Ci (p:PId) (u:TUnit):n9 p u ((aC p u).length - 1) = []:=by
 unfold n9;simp_all
theorem Aj (p:PId) (u:TUnit) {k:Nat} (h:k+1<(aC p u).length):n9 p u k=n9 p u (k+1)++ [bY (gD (aC p u) k)]:=by
 unfold n9;have h1:k<((aC p u).take ((aC p u).length - 1)).length:=by grind
 rw [Np h1,eW,List.reverse_cons];grind [gD]
theorem Ch (p:PId) (u:TUnit) (k:Nat):(n9 p u k).length≤(aC p u).length:=by grind [n9]
def kH (s:PStep) (u:TUnit):List TUnit:=(be u).filter (bi s)
def dW (s:PStep) (l:List TUnit):List TUnit:=(dc l).filter (bi s)
theorem ym (s:PStep) (u:TUnit):kH s u=(bif bi s u then [u] else [])++dW s u.kids:=by
 unfold kH dW;rw [dY,List.filter_cons];grind
theorem mc (s:PStep):dW s [] = []:=by unfold dW;rw [fu];rfl
theorem gd (s:PStep) (k:TUnit) (r:List TUnit):dW s (k::r)=kH s k++dW s r:=by grind [kH,dW,bC]
theorem mQ (s:PStep) (u:TUnit):(kH s u).length≤nU u:=by grind [kH,E1]
theorem sQ : ∀ (l m:List TUnit),dP (l++m)=dP l+dP m
 | [],m=>by rw [lF,rz,f9]
 | x::r,m=>by rw [pp,bc,bc,sQ r m,Nat.add_assoc]
theorem yL (q:TUnit→Bool) : ∀ (l:List TUnit),dP (l.filter q)≤dP l
 | []=>by simp_all
 | x::r=>by
  rw [List.filter_cons,bc];have:=yL q r;cases q x with
  | true=>rw [if_pos rfl,bc];omega
  | false=>grind
theorem yI (q:TUnit→Bool) : ∀ (l:List TUnit),dP (l.flatMap fun x=>x.kids.filter q)≤dP l
 | []=>by simp_all
 | x::r=>by
  rw [List.flatMap_cons,sQ,bc];have:=yI q r;grind [yL,iP]
theorem JF {n:Nat} : ∀ (l:List TUnit),(∀ x,x∈l→nU x≤n)→dP l≤n * l.length
 | [],_=>by simp_all [lF]
 | x::r,h=>by
  rw [bc,cH,Nat.mul_add,Nat.mul_one];have:=h x (fU ..);have:=JF r fun y hy=>h y (fW _ hy)
  omega
theorem FV (s:PStep) (u:TUnit) (hp : ∀ x,x∈be u→nU x≤nU u):dP (kH s u)≤nU u * nU u:=by
 have h1:=JF (n:=nU u) (kH s u) fun x hx=>hp x (List.mem_filter.1 hx).1
 exact bH h1 (Nat.mul_le_mul_left _ (mQ s u))
theorem Hi (l:List TUnit):gY [] l=l:=rfl
theorem Ik {u:TUnit} {p:List PStep} (h:kq p=false):dL u p = []:=by unfold dL;simp_all
theorem F3 {u:TUnit} (h:kq []=true):dL u [] = [u]:=by unfold dL;simp_all
theorem F4 {u:TUnit} {s:PStep} {r:List PStep} (h:kq (s::r)=true) (hb:mN s=true):dL u (s::r)=gY r [u]:=by
 unfold dL;simp_all
theorem wb {u:TUnit} {s:PStep} {r:List PStep} (h:kq (s::r)=true) (hb:mN s=false):dL u (s::r)=gY r (kH s u):=by
 unfold dL;rw [h];show gY r (bif mN s then [u] else (be u).filter (bi s))=_
 rw [hb];rfl
def cb (s:PStep) (l:List TUnit):List TUnit:=l.flatMap fun x=>x.kids.filter (bi s)
section
variable {s : PStep} {l m r r1 X : List TUnit} {w w1 : TUnit} {n N : Nat} {rs0 : List PStep} {R at0 : List TUnit}
theorem IQ:cb s [] = []:=rfl
theorem wx:cb s (w::r)=w.kids.filter (bi s)++cb s r:=by grind [cb]
theorem Hl (rs:List PStep):gY (s::rs) l=gY rs (cb s l):=rfl
theorem FY:dP (cb s l)≤dP l:=yI _ l
theorem fA (h:R=gY (s::rs0) l∧dP l≤N) (e:cb s []=cb s l):R=gY rs0 []∧dP []≤N:=⟨by rw [h.1,Hl,← e];rfl,by simp_all [lF]⟩
theorem fB (h:R=gY (s::rs0) l∧dP l≤N) (e:m++cb s []=cb s l):R=gY rs0 m∧dP m≤N:=by grind [IQ,Hl,FY]
theorem gA (h:cb s (w1::r1)=X):w1.kids.filter (bi s)++cb s r1=X:=wx.symm.trans h
theorem gB (h:n=m.length∧m++cb s (w1::r1)=X∧m.length+dP (w1::r1)<N):n=m.length∧m++(w1.kids.filter (bi s)++cb s r1)=X∧m.length+(dP w1.kids+dP r1)<N:=⟨h.1,wx (s:=s) ▸ h.2.1,by grind [bc,iP]⟩
theorem Yt (h:(w::r).filter (bi s)++cb s r1=X) (q:bi s w=false):r.filter (bi s)++cb s r1=X:=by simp_all
theorem Up (h:n=m.length∧m++((w::r).filter (bi s)++cb s r1)=X∧m.length+(dP (w::r)+dP r1)<N) (q:bi s w=false):n=m.length∧m++(r.filter (bi s)++cb s r1)=X∧m.length+(dP r+dP r1)<N:=⟨h.1,by simp_all,by grind [bc]⟩
theorem Ys (h:n=m.length∧m++((w::r).filter (bi s)++cb s r1)=X∧m.length+(dP (w::r)+dP r1)<N) (q:bi s w=true):n+1=(m++ [w]).length∧(m++ [w])++(r.filter (bi s)++cb s r1)=X∧(m++ [w]).length+(dP r+dP r1)<N:=⟨by simp_all,by simp_all,by grind [H2,bc]⟩
end
section
variable {p : PId} {u : TUnit} {i : Int} {l : List PId}
theorem NK (hn:i=Int.ofNat (aC p u).length - 2) (h0:ar i 0=false) : [bY (gD (aC p u) i.toNat)]=n9 p u (i - 1+1).toNat:=by
 have h0:=aB h0;simp only [aL] at hn;have e:(i - 1+1).toNat=i.toNat:=by omega
 rw [e,Aj p u (k:=i.toNat) (by omega),show i.toNat+1=(aC p u).length - 1 by omega,Ci,rz]
theorem G6 (h:l=n9 p u (i+1).toNat) (hi:i+2≤(aC p u).length) (h0:ar i 0=false):l++ [bY (gD (aC p u) i.toNat)]=n9 p u (i - 1+1).toNat:=by
 have h0:=aB h0;grind [Aj]
theorem Rk (h:l=n9 p u (i+1).toNat) (hi : -1≤i) (h0:ar i 0=true):l=pd p u:=by
 have h0:=au h0;rw [h,show (i+1).toNat=0 by omega,DE]
theorem Rj (hn:i=Int.ofNat (aC p u).length - 2) (h0:ar i 0=true):pd p u = []:=by
 have h0:=au h0;simp only [aL] at hn;rw [← DE];have:(aC p u).length - 1=0:=by omega
 grind [Ci]
end
theorem Jr {s:PStep} {l m:List TUnit} (h:dW s l=m) (hm:m≠ []):l≠ []:=by grind [mc]
theorem UP (l:List TUnit) {z:AV} (hz:z.top=0):aq (l.map aK++ [z])=0:=jF.2 fun x hx=>by grind [gH]
theorem oc {l x r:List TUnit} {w:TUnit} {j:Nat} (h1:l.drop j=x) (h2:x=w::r):nU w+dP r≤dP l:=by
 have e:l=l.take j++(w::r):=by grind [List.take_append_drop]
 grind [sQ,bc]
end Go.Ev
namespace Go.Ev
open Go
def pL (l:List aN) (n:Int):Bool:=pM l && ak (ar (.ofNat l.length) n)
def AD (n:Int):Bool:=ak (ar n 0) && ak (ar 256 n)
theorem Ij {u:TUnit} (p:List PStep) (h:nU u≤2 ^ 11):(dL u p).length≤2 ^ 22:=by
 have key : ∀ (rs:List PStep) (l:List TUnit),dP (gY rs l)≤dP l:=by
  intro rs;induction rs with
  | nil=>intro l;exact al _
  | cons s r ih=>grind [Hl,FY]
 unfold dL;cases kq p with
 | false=>simp_all
 | true=>
  simp only [cond_true];cases p with
  | nil=>simp_all
  | cons s r=>
   simp only [];refine bH (xl _) (bH (key r _) ?_);cases mN s with
   | true=>grind [bc,lF]
   | false=>
    simp only [cond_false];have h1:=FV s u fun x hx=>dD hx
    have h2:nU u * nU u≤2 ^ 11 * 2 ^ 11:=Nat.mul_le_mul h h;exact bH h1 h2
theorem GW {u:TUnit} {p:List PStep} (h:dL u p = []):aE u p=(bG,7):=by grind [aE]
theorem GX {u x:TUnit} {p:List PStep} (h:dL u p = [x]):aE u p=(bY x,0):=by grind [aE]
theorem GZ {u x y:TUnit} {r:List TUnit} {p:List PStep} (h:dL u p=x::y::r):aE u p=(bG,8):=by grind [aE]
def wF (own:PId) (i:Int) (ok:Bool) (n:Int):PSpot × Int:=bif ok then (⟨own,i+n⟩,0) else (dr,9)
def Bi (e:Int) (sp:PSpot) (e2:Int):PSpot × Int:=bif ae e 0 then (bif ae e2 0 then (sp,0) else (dr,e2)) else (dr,e)
def nh (p q own:PId) (at_:Int) (ok c bs:Bool) (sp:PSpot) (e:Int):PSpot × Int:=
 bif ak ok || ((ak (bb q p) && c) || (bb q p && ak bs)) then (dr,9)
 else bif bb q p then (⟨own,at_⟩,0)
 else bif ae e 0 && (bb sp.id own && ar at_ sp.at_) then (⟨sp.id,sp.at_ - 1⟩,e) else (sp,e)
end Go.Ev
