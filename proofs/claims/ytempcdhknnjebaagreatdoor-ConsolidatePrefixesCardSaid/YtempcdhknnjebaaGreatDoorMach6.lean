/- An abstract machine for runs of the program, proved sound against the model: part 6. No conditions. -/
import Derived.Test.YtempcdhknnjebaaGreatDoorMach5
import Derived.Shelf.SortM.Plain
import Derived.Shelf.SortM.SortNone
import Derived.Shelf.SlSortCmp.NoneTotal
import Derived.Shelf.SlicesG.CompactI
import Derived.Lib.QuietBelow
import GoSem.ClaimJoined
import Derived.Calls
import Derived.RunT
import Derived.Below
import Derived.Shelf.Strings.FuncGrows
import Derived.Laws.RangeAny
import Derived.Lib.Join
import Derived.Lib.Repeat
import Derived.Lib.SlTrimSet
namespace Go.Ev
open Go Go.Sort Go.Proofs
section
variable {P : Program} {G : eY} {pl : Pl} {M : dj} {h : AHeap} {w w' : World}
theorem sx (hr:co pl M h w) {id:Nat} {p:Place} {sz:Nat} {op:Bool} {ep:Nat} {xs xs':List AV} {c c':Array Value} {t:TypeId} (hp:pl id=some p) (hg:h.get id=some (.row sz op ep xs))
  (hb:w.heap[p.blk]? = some (.cells c t (0,0))) (hw:w'.heap[p.blk]? = some (.cells c' t (0,0))) (hcs:c'.size=c.size) (hlen:xs'.length=xs.length) (hel : ∀ x,x∈xs'→x.cells.length=sz∧Sc x)
  (hcell : ∀ i x j y,xs'[i]? = some x→x.cells[j]? = some y→VRel pl M y (c'.getD (i * sz+j) undef)) (hs:WSame w w') (hsz:w.heap.size≤w'.heap.size) (hk : ∀ b,b<w.heap.size→b≠p.blk→w'.heap[b]? = w.heap[b]?) :
  co pl M (h.put id (.row sz op ep xs')) w'∧cL h pl M w (h.put id (.row sz op ep xs')) pl M w':=by
 have ho:=hr.obj id p _ hp hg;rw [hb] at ho;simp only [be] at ho;obtain ⟨h1,h2,h3,h4,h5,h6,h7,h8⟩:=ho;have e:=xp (pl:=pl) hp;have:=co.change (p':=p) (o':= .row sz op ep xs') hr hp hg (.inl rfl) hs hsz hk (.inl rfl) (vq.1 hw).1 (by
  rw [e,hw];simp only [be];refine ⟨h1,h2,by omega,by omega,trivial,h6,fun e=>by simp_all,⟨?_,hel,fun i x j y q1 q2=>?_⟩⟩
  ·grind [cases InMem]
  simp_all)
 simp_all
variable {β : Type} [Inhabited β]
theorem pT {enc:β→Value} {blk off n:Nat} {d:Array β} {os:Array Obj} {c:Array Value} {t:TypeId} {fr:Nat × Nat} (hb:w.heap[blk]? = some (.cells c t fr)) :
  (grow (putRow enc (Sort.ahead w n) blk off d) os).heap[blk]? = some (.cells (putCells enc off d c) t fr):=by
 grind [grow,putRow,mapBlock,Sort.ahead,onCells]
theorem jM {enc:β→Value} {blk off n:Nat} {d:Array β} {os:Array Obj} {b:Nat} (hb:b<w.heap.size) (hne:b≠blk) :
  (grow (putRow enc (Sort.ahead w n) blk off d) os).heap[b]? = w.heap[b]?:=by
 simp only [grow,putRow,mapBlock,Sort.ahead];grind
theorem nY {enc:β→Value} {blk off n:Nat} {d:Array β} {os:Array Obj} : WSame w (grow (putRow enc (Sort.ahead w n) blk off d) os):=⟨rfl,rfl,rfl,Nat.le_add_right _ _⟩
theorem Af {enc:β→Value} {blk off n:Nat} {d:Array β} {os:Array Obj} : w.heap.size≤(grow (putRow enc (Sort.ahead w n) blk off d) os).heap.size:=by simp_all
theorem nW {enc:β→Value} {d:Array β} {c:Array Value} {k:Nat} (hk:k<d.size) (hc:k<c.size):(putCells enc 0 d c).getD k undef=enc d[k]!:=by simp_all [putCells]
theorem pn (hr:co pl M h w) {id ep len sz:Nat} {op:Bool} {cap:Option Nat} {xs:List AV} {x:Value} (hv:VRel pl M (.slice id ep 0 len cap) x) (hg:h.get id=some (.row sz op ep xs)) (hl:0<len) :
  ∃ p c t cap',pl id=some p∧w.heap[p.blk]? = some (.cells c t (0,0))∧x = .slice (some ⟨p.blk,0,none⟩) len cap'∧InMem pl M c 0 sz xs∧0<sz∧p.blk<w.heap.size:=by
 cases hv with
 | slice hp he hle hk ha=>
  rename_i cap' a p;have ho:=hr.obj id p _ hp hg;cases hb:w.heap[p.blk]? with
  | none=>grind [be]
  | some ob=>
   rw [hb] at ho;cases ob <;> simp only [be] at ho
   rename_i c t fr;obtain ⟨h1,h2,h3,h4,h5,h6,h7,h8⟩:=ho;subst h5;obtain ⟨k1,_⟩:=ha (by omega);have k2:a=⟨p.blk,0,none⟩:=by grind
   exact ⟨p,c,t,_,hp,hb,by rw [k2],h8,h6,(vq.1 hb).1⟩
def dm (zs:List Int):List Int:=zs.mergeSort fun x y=>decide (x≤y)
theorem kq (zs:List Int):(dm zs).Perm zs:=List.mergeSort_perm ..
theorem Ce (zs:List Int):(dm zs).Pairwise (fun a b=>a≤b):=by
 have:=List.pairwise_mergeSort (le:=fun x y:Int=>decide (x≤y)) (by grind) (by grind) zs;exact this.imp (by simp)
theorem BA {c:Array Value} {sz:Nat} {xs:List AV} (hm:InMem pl M c 0 sz xs) {i:Nat} {x:AV} (hx:xs[i]? = some x) {j:Nat} (hj:j<sz):i * sz+j<c.size∧∃ y,x.cells[j]? = some y∧VRel pl M y (c.getD (i * sz+j) undef):=by
 have h1:=hm.fit;have hi:=(gZ.1 hx).1;have h2:=(hm.elem x (bh hx)).1;have h3:(i+1) * sz≤xs.length * sz:=eW _ hi;rw [jx] at h3;refine ⟨by omega,x.cells[j],by simp_all,?_⟩;have:=hm.cell i x j _ hx (lY (by omega:j<x.cells.length));simp_all
theorem Ak {f:FuncId} (hE : ∀ vs w,(callFunc f vs).run P w = .ok (.enter f vs) w)
  (hC : ∀ (blk off cap:Nat) (zs:List Int) (w:World),Holds (Value.int .i64) w blk off zs.toArray→blk<w.heap.size→zs.length<4611686018427387904→
   Calls P f #[.slice (some ⟨blk,off,none⟩) zs.length cap] w fun e w'=>e = .returned (.tuple #[])∧∃ n os,w'=grow (putRow (Value.int .i64) (Sort.ahead w n) blk off (zs.mergeSort fun x y=>decide (x≤y)).toArray) os)
  {id ep:Nat} {op:Bool} {cap:Option Nat} (zs:List Int) (hg:h.get id=some (.row 1 op ep (zs.map bd))) (hz:0<zs.length) (hb:zs.length<4611686018427387904) :
  aD P G f [.slice id ep 0 zs.length cap] h (fun v h'=>v = .tuple []∧h'=h.put id (.row 1 op ep ((dm zs).map bd))):=by
 intro pl M w vs hG hr hv;obtain ⟨a,rfl,hv1⟩:=Qa hv;obtain ⟨p,c,t,cap',hp,hbl,rfl,hm,_,hlt⟩:=pn hr hv1 hg hz;have hcell : ∀ j z,zs[j]? = some z→j<c.size∧c.getD j undef = .int .i64 z:=by
  intro j z hj;have hx:(zs.map bd)[j]? = some (bd z):=by simp_all
  obtain ⟨q1,y,q2,q3⟩:=BA hm hx (j:=0) (by omega);rw [Nat.mul_one,o6] at q1 q3;simp [bd,AV.cells] at q2;subst q2;refine ⟨q1,?_⟩;cases hq:c.getD j undef <;> rw [hq] at q3 <;> cases q3
  rfl
 refine .inl ⟨hE _ _,Calls.mono (hC p.blk 0 cap' zs w (fun j hj=>?_) hlt hb) fun e w' ⟨he,n,os,hw⟩=>?_⟩
 ·have hj':j<zs.length:=by omega
  obtain ⟨q1,q2⟩:=hcell j zs[j] (lY hj');rw [fS];refine ⟨?_,?_⟩
  ·simp only [World.cell?,hbl];simp only [Option.isSome_none,fT,if_false];rw [DL q1];simp_all
  grind [World.frozen?]
 ·refine ⟨.tuple #[], .tuple [],_,he,⟨rfl,rfl⟩,pl,M,qk,?_⟩;have hlen:(dm zs).length=zs.length:=(kq zs).length_eq;have hw1:w'.heap[p.blk]? = some (.cells (putCells (Value.int .i64) 0 (dm zs).toArray c) t (0,0)):=by rw [hw];exact pT hbl
  obtain ⟨r1,r2⟩:=sx (w':=w') (xs':=(dm zs).map bd) hr hp hg hbl hw1 (by simp [putCells]) (by simp_all) (fun x hx=>by
    obtain ⟨z,_,rfl⟩:=j8.1 hx;exact ⟨rfl,fun y hy=>by simp [bd,AV.cells] at hy;subst hy;rfl⟩) (fun i x j y q1 q2=>by
    rw [pd] at q1;obtain ⟨z,e1,rfl⟩:=DI.1 q1;have hi:=(gZ.1 e1).1;cases j with
    | succ j=>grind [bd,AV.cells]
    | zero=>
     simp [bd,AV.cells] at q2;subst q2;rw [Nat.mul_one,o6,nW (by omega) (hcell i zs[i] (lY (by omega))).1];have:(dm zs).toArray[i]! = z:=by simp_all
     rw [this];exact .int _ _) (by grind [nY]) (by simp_all) (fun b hb hne=>by grind [jM])
  exact ⟨r1,r2,al _⟩
def bY (zs:List Int):List Int:=Lib.compact zs
theorem wV (zs:List Int):(bY zs).length≤zs.length:=by grind [bY,Lib.compact,Lib.compactUpTo]
theorem vQ {f:FuncId} (hE : ∀ vs w,(callFunc f vs).run P w = .ok (.enter f vs) w)
  (hC : ∀ (blk off cap:Nat) (zs:List Int) (w:World),Holds (Value.int .i64) w blk off zs.toArray→zs.length≤9223372036854775807→zs.length≤cap→
   Calls P f #[.slice (some ⟨blk,off,none⟩) zs.length cap] w fun e w'=>e = .returned (.slice (some ⟨blk,off,none⟩) (Lib.compact zs).length cap)∧∃ q,w'=putRow (Value.int .i64) (Sort.ahead w q) blk off (Lib.compact zs++List.replicate (zs.length - (Lib.compact zs).length) 0).toArray)
  {id ep:Nat} {op:Bool} (zs:List Int) (hg:h.get id=some (.row 1 op ep (zs.map bd))) (hz:0<zs.length) (hb:zs.length<4611686018427387904) :
  aD P G f [.slice id ep 0 zs.length none] h (fun v h'=>v = .slice id ep 0 (bY zs).length none∧h'=h.put id (.row 1 op ep ((bY zs++List.replicate (zs.length - (bY zs).length) 0).map bd))):=by
 intro pl M w vs hG hr hv;obtain ⟨a,rfl,hv1⟩:=Qa hv;obtain ⟨p,c,t,cap',hp,hbl,rfl,hm,_,hlt⟩:=pn hr hv1 hg hz;have hcell : ∀ j z,zs[j]? = some z→j<c.size∧c.getD j undef = .int .i64 z:=by
  intro j z hj;have hx:(zs.map bd)[j]? = some (bd z):=by simp_all
  obtain ⟨q1,y,q2,q3⟩:=BA hm hx (j:=0) (by omega);rw [Nat.mul_one,o6] at q1 q3;simp [bd,AV.cells] at q2;subst q2;refine ⟨q1,?_⟩;cases hq:c.getD j undef <;> rw [hq] at q3 <;> cases q3
  rfl
 have hle:=wV zs;have hcap:zs.length≤cap':=by grind [cases VRel]
 generalize hnew:bY zs++List.replicate (zs.length - (bY zs).length) 0=ns;have hnl:ns.length=zs.length:=by grind
 refine .inl ⟨hE _ _,Calls.mono (hC p.blk 0 cap' zs w (fun j hj=>?_) (by omega) hcap) fun e w' ⟨he,n,hw⟩=>?_⟩
 ·have hj':j<zs.length:=by omega
  obtain ⟨q1,q2⟩:=hcell j zs[j] (lY hj');rw [fS];refine ⟨?_,?_⟩
  ·simp only [World.cell?,hbl];simp only [Option.isSome_none,fT,if_false];rw [DL q1];simp_all
  grind [World.frozen?]
 ·have hw2:w'=grow (putRow (Value.int .i64) (Sort.ahead w n) p.blk 0 ns.toArray) #[]:=by rw [hw,grow_empty];congr 2
  have hrel:VRel pl M (.slice id ep 0 (bY zs).length none) (.slice (some ⟨p.blk,0,none⟩) (bY zs).length cap'):=by
   cases hv1 with
   | slice hp he hl hk ha=>
    refine .slice hp he (by omega) hk fun e=>?_
    grind
  refine ⟨_,_,_,he,⟨rfl,rfl⟩,pl,M,hrel,?_⟩;have hw1:w'.heap[p.blk]? = some (.cells (putCells (Value.int .i64) 0 ns.toArray c) t (0,0)):=by grind [pT]
  obtain ⟨r1,r2⟩:=sx (w':=w') (xs':=ns.map bd) hr hp hg hbl hw1 (by simp [putCells]) (by simp_all) (fun x hx=>by
    obtain ⟨z,_,rfl⟩:=j8.1 hx;exact ⟨rfl,fun y hy=>by simp [bd,AV.cells] at hy;subst hy;rfl⟩) (fun i x j y q1 q2=>by
    rw [pd] at q1;obtain ⟨z,e1,rfl⟩:=DI.1 q1;have hi:=(gZ.1 e1).1;cases j with
    | succ j=>grind [bd,AV.cells]
    | zero=>
     simp [bd,AV.cells] at q2;subst q2;rw [Nat.mul_one,o6,nW (by omega) (hcell i zs[i] (lY (by omega))).1];have:ns.toArray[i]! = z:=by simp_all
     rw [this];exact .int _ _) (by grind [nY]) (by simp_all) (fun b hb hne=>by grind [jM])
  exact ⟨r1,r2,al _⟩
theorem Cf {f:FuncId} (hE : ∀ vs w,(callFunc f vs).run P w = .ok (.enter f vs) w)
  (hC : ∀ (p:Option Addr) (cap:Nat) (w:World),Calls P f #[.slice p 0 cap] w fun e w'=>e = .returned (.tuple #[])∧w'=w):aM P G f [.nils] (.tuple []):=by
 intro h pl M w vs hG hr hv;obtain ⟨a,rfl,hv1⟩:=Qa hv;cases hv1
 exact .inl ⟨hE _ _,Calls.mono (hC none 0 w) fun e w' ⟨he,hw⟩=>⟨.tuple #[], .tuple [],h,he,⟨rfl,rfl⟩,pl,M,qk,by simp_all [StepF.refl]⟩⟩
theorem uj {f:FuncId} {g:Fn} (hE : ∀ vs w,(callFunc f vs).run P w = .ok (.enter f vs) w)
  (hC : ∀ (p:Option Addr) (cap:Nat) (fv:Value) (w:World),Calls P f #[.slice p 0 cap,fv] w fun e w'=>e = .returned (.tuple #[])∧w'=w):aM P G f [.nils, .func g [] []] (.tuple []):=by
 intro h pl M w vs hG hr hv;obtain ⟨a,b,rfl,hv1,hv2⟩:=zG hv;cases hv1
 exact .inl ⟨hE _ _,Calls.mono (hC none 0 b w) fun e w' ⟨he,hw⟩=>⟨.tuple #[], .tuple [],h,he,⟨rfl,rfl⟩,pl,M,qk,by simp_all [StepF.refl]⟩⟩
def CO {α:Type} (cmp:α→α→Int) (a b:α):Bool:=decide (cmp a b<0)
theorem Aw {f g:FuncId} {sz:Nat} (hGT:ib G) (hE : ∀ vs w,(callFunc f vs).run P w = .ok (.enter f vs) w) (hg2 : ∀ args w,(callFunc g args).run P w = .ok (.enter g args) w)
  (hC : ∀ (m:Nat) (enc:Fin (m+1)→List Value) (cf:Fin (m+1)→Fin (m+1)→Int) (blk off cap:Nat) (d:Array (Fin (m+1))) (w:World),(∀ x,(enc x).length=sz)→(∀ x,∀ v∈enc x,v.oneCell'=true)→SWO (ltOf cf)→
   CmpLays P g #[] enc sz cf blk off d.size w→HoldsK enc sz w blk off d→blk<w.heap.size→d.size<4611686018427387904→
   Calls P f #[.slice (some ⟨blk,off,none⟩) d.size cap, .func (.func g) #[] #[]] w fun e w'=>e = .returned (.tuple #[])∧∃ d' n os,PermIn 0 d.size d d'∧SortedIn (ltOf cf) 0 d.size d'∧w'=sortWorldK enc sz w blk off n d' os)
  {α:Type} [Inhabited α] (enc:α→AV) (cmp:α→α→Int) (hO:SWO (CO cmp)) (hag : ∀ a,∃ cs,enc a = .agg cs) (htop : ∀ a,(enc a).top=0)
  (l:List α) (hcmp : ∀ a,a∈l→∀ b,b∈l→aM P G g [enc a,enc b] (.int .i64 (cmp a b)))
  {oid ep:Nat} {op:Bool} {cap:Option Nat} (hg:h.get oid=some (.row sz op ep (l.map enc))) (hz:0<l.length) (hb:l.length<4611686018427387904) :
  aD P G f [.slice oid ep 0 l.length cap, .func (.func g) [] []] h (fun v h'=>∃ l':List α,(l'.Perm l∧l'.Pairwise fun a b=>CO cmp b a=false)∧v = .tuple []∧h'=h.put oid (.row sz op ep (l'.map enc))):=by
 intro pl M w vs hG hr hv;obtain ⟨a,fv,rfl,hv1,hv2⟩:=zG hv;have e2:=yK hv2;subst e2;obtain ⟨p,c,t,cap',hp,hbl,rfl,hm,hsz0,hlt⟩:=pn hr hv1 hg hz;obtain ⟨m,hm1⟩ : ∃ m,l.length=m+1:=⟨l.length - 1,by omega⟩
 have hfit:=hm.fit;rw [bH,fS,hm1] at hfit;have helem : ∀ i:Fin (m+1),(l.map enc)[i.1]? = some (enc l[i.1]!):=fun i=>by
  have:=i.2;rw [pd,lY (by omega),getElem!_pos l i.1 (by omega)];rfl
 have hmul : ∀ i:Fin (m+1),i.1 * sz+sz≤(m+1) * sz:=fun i=>by have:=eW sz (Nat.succ_le_of_lt i.2);rwa [pe] at this
 generalize hcof:(fun i:Fin (m+1)=>(List.range sz).map fun j=>c.getD (i.1 * sz+j) undef)=cellsOf;have cl : ∀ i,(cellsOf i).length=sz:=fun i=>by rw [← hcof];simp
 have cg : ∀ i j,j<sz→(cellsOf i)[j]? = some (c.getD (i.1 * sz+j) undef):=fun i j hj=>by rw [← hcof];simp [hj]
 generalize hd:(Array.ofFn (n:=m+1) id)=d;have hds:d.size=m+1:=by rw [← hd];simp
 have hdg : ∀ j (hj:j<m+1),d[j]! = ⟨j,hj⟩:=fun j hj=>by rw [getElem!_pos d j (by omega)];subst hd;simp
 have hflat : ∀ (dk:Array (Fin (m+1))),dk.size=m+1→∀ i j,i<m+1→j<sz→(flatK cellsOf sz dk)[i * sz+j]! = c.getD ((dk[i]!).1 * sz+j) undef:=fun dk hdk i j hi hj=>by
  have h1:i * sz+j<dk.size * sz:=by have:=eW sz (Nat.succ_le_of_lt hi);rw [pe] at this;rw [hdk];omega
  rw [get_flatK cellsOf sz dk _ h1];have h2:(i * sz+j) / sz=i:=by rw [Nat.mul_comm,Nat.mul_add_div hsz0,Nat.div_eq_of_lt hj,o6]
  have h3:(i * sz+j) % sz=j:=by rw [Nat.mul_comm,Nat.mul_add_mod,Nat.mod_eq_of_lt hj]
  rw [h2,h3,getElem!_pos _ j (by rw [cl];exact hj)];have:=cg (dk[i]!) j hj;rw [lY (by rw [cl];exact hj)] at this;simpa using this
 have hH:HoldsK cellsOf sz w p.blk 0 d:=by
  intro k hk;rw [size_flatK,hds] at hk;have hi:k / sz<m+1:=Nat.div_lt_of_lt_mul (by rw [Nat.mul_comm];exact hk);have hj:k % sz<sz:=Nat.mod_lt _ hsz0;have hk2:k / sz * sz+k % sz=k:=by rw [Nat.mul_comm];exact Nat.div_add_mod k sz
  have:=hflat d hds (k / sz) (k % sz) hi hj;rw [hdg _ hi,hk2] at this;rw [this,fS];have hkc:k<c.size:=by omega
  refine ⟨?_,by simp [World.frozen?,hbl]⟩;simp only [World.cell?,hbl];simp only [Option.isSome_none,fT,if_false];rw [DL hkc];simp [Array.getD,hkc]
 have hrelE : ∀ (i:Fin (m+1)) cs,enc l[i.1]! = .agg cs→cs.length=sz∧(∀ y,y∈cs→ct y=true)∧∀ (j:Nat) (y:AV),cs[j]? = some y→VRel pl M y (c.getD (i.1 * sz+j) undef):=by
  intro i cs hcs;have h1:=hm.elem _ (bh (helem i));rw [hcs] at h1;refine ⟨h1.1,h1.2,fun j y hj=>?_⟩;have:=hm.cell i.1 _ j y (helem i) (by rw [hcs];exact hj);rwa [fS] at this
 have hone : ∀ i,∀ v∈cellsOf i,v.oneCell'=true:=by
  intro i v hvm;obtain ⟨j,hj,e⟩:=DH hvm;rw [cl] at hj;have h1:=cg i j hj;rw [lY (by rw [cl];exact hj),e] at h1;obtain ⟨cs,hcs⟩:=hag l[i.1]!;obtain ⟨k1,k2,k3⟩:=hrelE i cs hcs;have:=k3 j cs[j] (lY (by omega));cases h1
  exact this.one (k2 _ (Cj _))
 have hmemL : ∀ i:Fin (m+1),l[i.1]!∈l:=fun i=>by
  have:=i.2;rw [getElem!_pos l i.1 (by omega)];exact Cj _
 have hlays:CmpLays P g #[] cellsOf sz (fun i j=>cmp l[i.1]! l[j.1]!) p.blk 0 d.size w:=by
  intro n os dk hdk x y;generalize hW:sortWorldK cellsOf sz w p.blk 0 n dk os=W;have hWo : ∀ b,b<w.heap.size→b≠p.blk→W.heap[b]? = w.heap[b]?:=fun b h1 h2=>by rw [← hW];exact jM h1 h2
  have hrW:co (fun _=>none) M AHeap.none W:=pC (pl:=fun _=>none) (n:=0) (g:=AHeap.none.get) ⟨fun _ _ h=>by simp at h,fun _ _ _ h=>by simp at h,fun _ _ h=>by simp at h,fun _ _ _ _ h=>by simp at h,fun b c' hM=>by
   obtain ⟨t',fr,q⟩:=hr.imm b c' hM;refine ⟨t',fr,?_⟩;rw [hWo b (hr.memLt hM) (fun e=>by have:=hr.sep oid p hp;rw [← e,hM] at this;cases this)];exact q,fun _ _ h=>by simp at h⟩
  have hrel : ∀ i:Fin (m+1),VRel (fun _=>none) M (enc l[i.1]!) (.agg (cellsOf i).toArray):=by
   intro i;obtain ⟨cs,hcs⟩:=hag l[i.1]!;obtain ⟨k1,k2,k3⟩:=hrelE i cs hcs;have ht:=htop l[i.1]!;rw [hcs] at ht ⊢;refine .agg (by simp [cl,k1]) k2 fun j y hj=>?_
   have hj':j<sz:=by rw [← k1];exact (gZ.1 hj).1
   have e:(cellsOf i).toArray.getD j undef=c.getD (i.1 * sz+j) undef:=by
    have:=cg i j hj';rw [gz,nc,this];rfl
   rw [e];exact (k3 j y hj).none (fx.1 ht y (bh hj))
  have hc:=hcmp _ (hmemL x) _ (hmemL y) AHeap.none (fun _=>none) M W #[.agg (cellsOf x).toArray, .agg (cellsOf y).toArray] (hG.none hGT) hrW ⟨rfl,fun j z hj=>by
   match j,hj with
   | 0,hj=>cases hj;exact hrel x
   | 1,hj=>cases hj;exact hrel y⟩
  rcases hc with ⟨h1,h2⟩ | ⟨cv,w',v,h',h1,h2,h3⟩
  ·refine Calls.mono h2 fun e w' ⟨cv,v,h',k1,k2,pl',M',k3,k4,k5,k6⟩=>?_
   obtain ⟨k2,_⟩:=k2;subst k2;cases k3
   refine ⟨k1,?_⟩;obtain ⟨q,hq⟩:=regrown_of_below (w:=W) (w':=w') ⟨k5.os,k5.tape,k5.out,k5.size,fun b hb=>k5.kept b hb fun id p h=>by simp at h⟩;refine ⟨w'.drawn - W.drawn,q.os,?_⟩;have hd1:w'.drawn=q.d:=by rw [hq];rfl
   have hd2:=k5.drawn;have:redrawn W q.d=W.drewN (w'.drawn - W.drawn):=by
    show ({ W with drawn:=q.d } : World) = { W with drawn:=W.drawn+(w'.drawn - W.drawn) }
    congr 1;omega
   rw [← this];exact hq
  ·rw [hg2] at h1;cases h1
 refine .inl ⟨hE _ _,?_⟩;have hcall:=hC m cellsOf (fun i j=>cmp l[i.1]! l[j.1]!) p.blk 0 cap' d w cl hone ⟨fun x=>hO.irrefl _,fun x y z=>hO.trans _ _ _,fun x y z=>hO.ntrans _ _ _⟩ hlays hH hlt (by omega);rw [show d.size=l.length by omega] at hcall;refine Calls.mono hcall fun e w' ⟨he,d',n,os,hP,hS,hw⟩=>?_
 obtain ⟨hp1,_,hp3⟩:=hP;have hd's:d'.size=m+1:=by omega
 have hperm:d'.toList.Perm d.toList:=by
  have e1:d'.extract 0 l.length=d':=by rw [show l.length=d'.size by omega];exact Array.extract_size
  have e2:d.extract 0 l.length=d:=by rw [show l.length=d.size by omega];exact Array.extract_size
  rwa [e1,e2] at hp3
 have hdl:d.toList.map (fun i=>l[i.1]!)=l:=by
  apply List.ext_getElem?;intro i;by_cases hi:i<l.length
  ·rw [pd,Array.getElem?_toList,DL (by omega),lY hi];have:=hdg i (by omega);rw [getElem!_pos d i (by omega)] at this;rw [this];show some (l[i]!)=some l[i]
   rw [getElem!_pos l i hi]
  ·rw [List.getElem?_eq_none (by simp;omega),List.getElem?_eq_none (by omega)]
 have hl':(d'.toList.map (fun i=>l[i.1]!)).length=l.length:=by simp;omega
 refine ⟨.tuple #[], .tuple [],_,he,⟨d'.toList.map (fun i=>l[i.1]!),⟨?_,?_⟩,rfl,rfl⟩,pl,M,qk,?_⟩
 ·have:=hperm.map (fun i=>l[i.1]!);rwa [hdl] at this
 ·rw [Ig];intro i j hi hj hij;have hi':i<d'.size:=by simpa using hi
  have hj':j<d'.size:=by simpa using hj
  have:=hS i j (bN _) hij (by omega);rw [getElem!_pos d' i hi',getElem!_pos d' j hj'] at this;simpa [CO,ltOf] using this
 ·have hw1:w'.heap[p.blk]? = some (.cells (putCells id 0 (flatK cellsOf sz d') c) t (0,0)):=by rw [hw];exact pT hbl
  obtain ⟨r1,r2⟩:=sx (w':=w') (xs':=(d'.toList.map (fun i=>l[i.1]!)).map enc) hr hp hg hbl hw1 (by simp [putCells]) (by simp;omega) (fun x hx=>by
    obtain ⟨z,h1,rfl⟩:=j8.1 hx;obtain ⟨i,_,rfl⟩:=j8.1 h1;exact hm.elem _ (bh (helem i))) (fun i x j y q1 q2=>by
    rw [pd,pd,Array.getElem?_toList] at q1;obtain ⟨z,e1,rfl⟩:=DI.1 q1;obtain ⟨k,e2,rfl⟩:=DI.1 e1;have hi:i<d'.size:=(vq.1 e2).1;obtain ⟨cs,hcs⟩:=hag l[k.1]!;obtain ⟨k1,k2,k3⟩:=hrelE k cs hcs;rw [hcs] at q2;have hj:j<sz:=by rw [← k1];exact (gZ.1 q2).1
    have hb1:i * sz+j<(m+1) * sz:=by have:=eW sz (Nat.succ_le_of_lt (show i<m+1 by omega));rw [pe] at this;omega
    rw [nW (by rw [size_flatK,hd's];exact hb1) (by omega)];have:=hflat d' hd's i j (by omega) hj;have e3:d'[i]! = k:=by rw [getElem!_pos d' i hi];rw [DL hi] at e2;simpa using e2
    rw [e3] at this;show VRel pl M y (flatK cellsOf sz d')[i * sz+j]!
    rw [this];exact k3 j y q2) (by rw [hw];exact nY) (by rw [hw];exact Af) (fun b hb hne=>by rw [hw];exact jM hb hne)
  exact ⟨r1,r2,al _⟩
end
end Go.Ev
namespace Go.Ev
open Go
theorem xj (a b:Int):ar (jl a b) 0=ar a b:=by
 unfold jl;cases h:ar a b with
 | true=>rfl
 | false=>cases h2:ar b a <;> rfl
noncomputable def ny (l:List PSpan) (d:Int):Nat:=(l.takeWhile fun s=>ar s.from_ d).length
theorem Dk (l:List PSpan) (d:Int):ny l d≤l.length:=by
 induction l with
 | nil=>simp [ny]
 | cons a r ih=>grind [ny,List.takeWhile_cons]
def re (l:List PSpan):Prop:=l.Pairwise fun a b=>a.from_≤b.from_
theorem zp {d:Int} : ∀ {l:List PSpan},re l→∀ k,k<l.length→(ar (gD l k).from_ d=true↔k<ny l d)
 | [],_,k,h=>by simp_all
 | a::r,hs,k,h=>by
  obtain ⟨h1,h2⟩:=j7.1 hs;unfold ny;rw [List.takeWhile_cons];cases q:ar a.from_ d with
  | true=>
   simp only [if_true,cE];cases k with
   | zero=>grind [gD]
   | succ k=>
    have:=zp (d:=d) h2 k (by simp_all);rw [show gD (a::r) (k+1)=gD r k from rfl,this];grind [ny]
  | false=>
   simp only [fT,if_false,gq,pa,iff_false,Bool.not_eq_true];have hd:=aF q;grind [iY,lg]
noncomputable def HF (l:List PSpan) (d:Int):Bool:=ar (Int.ofNat (ny l d)) (Int.ofNat l.length) && ae (jl (gD l (ny l d)).from_ d) 0
theorem MA {l:List PSpan} (h:l.Pairwise fun a b=>a.to<b.from_) (h2 : ∀ s,s∈l→s.from_<s.to):re l:=by
 induction l with
 | nil=>exact .nil
 | cons a r ih=>
  obtain ⟨h3,h4⟩:=j7.1 h;refine j7.2 ⟨fun b hb=>?_,ih h4 fun s hs=>h2 s (fY _ hs)⟩;grind
structure NrmS (l:List PSpan):Prop where
 gap:l.Pairwise fun a b=>a.to<b.from_
 ok : ∀ s,s∈l→0≤s.from_∧s.from_<s.to∧s.to≤1048577
theorem NrmS.sort {l:List PSpan} (h:NrmS l):re l:=MA h.gap fun s hs=>(h.ok s hs).2.1
theorem GH : ∀ {l:List PSpan} {b:Int},l.Pairwise (fun a b=>a.to<b.from_)→(∀ s,s∈l→b≤s.from_∧s.from_<s.to∧s.to≤1048577)→b≤1048577→Int.ofNat l.length≤1048577 - b
 | [],b,_,_,hb=>by simp_all
 | a::r,b,h,h2,hb=>by
  obtain ⟨h3,h4⟩:=j7.1 h;have h5:=h2 a (fp ..);have:=GH (l:=r) (b:=b+1) h4 (fun s hs=>by grind) (by omega);grind
theorem NrmS.len {l:List PSpan} (h:NrmS l):l.length≤1048577:=by
 have:=GH (b:=0) h.gap h.ok (by omega);grind
noncomputable def iK (l:List PSpan) (d:Int):Bool:=HF l d || (ar 0 (Int.ofNat (ny l d)) && ar d (gD l (ny l d - 1)).to)
theorem CL (a b:Int):Bh a b=max a b:=by
 unfold Bh;cases h:ar a b with
 | true=>have:=au h;grind
 | false=>have:=aF h;grind
theorem Ho (a b:Int):Lx a b=min a b:=by
 unfold Lx;cases h:ar b a with
 | true=>have:=au h;grind
 | false=>have:=aF h;grind
noncomputable abbrev TL (s:PSpan):PSpan:=⟨Bh s.from_ 0,Lx s.to 1048577⟩
noncomputable abbrev Vl (s:PSpan):Bool:=ar (Bh s.from_ 0) (Lx s.to 1048577)
noncomputable def jZ:List PSpan→List PSpan
 | []=> []
 | s::r=>match Vl s with | true=>TL s::jZ r | false=>jZ r
theorem tF {s:PSpan} {r:List PSpan} (h:Vl s=true):jZ (s::r)=TL s::jZ r:=by grind [jZ]
theorem tG {s:PSpan} {r:List PSpan} (h:Vl s=false):jZ (s::r)=jZ r:=by grind [jZ]
theorem B9 : ∀ (l:List PSpan),(jZ l).length≤l.length
 | []=>by simp [jZ]
 | s::r=>by
  have:=B9 r;cases h:Vl s with
  | true=>grind [tF]
  | false=>grind [tG]
theorem zt : ∀ {l:List PSpan} {s:PSpan},s∈jZ l→0≤s.from_∧s.from_<s.to∧s.to≤1048577
 | a::r,s,hs=>by
  cases h:Vl a with
  | true=>
   rw [tF h] at hs;rcases fz.1 hs with e | e
   ·subst e;have h2:=au h;grind [CL,Ho]
   ·exact zt e
  | false=>rw [tG h] at hs;exact zt hs
def memB (l:List PSpan) (d:Int):Bool:=l.any fun s=>decide (s.from_≤d∧d<s.to)
def ME (d:Int):Bool:=decide (0≤d∧d<1048577)
theorem ma (d:Int):memB [] d=false:=rfl
theorem eZ (a:PSpan) (l:List PSpan) (d:Int):memB (a::l) d=(decide (a.from_≤d∧d<a.to) || memB l d):=rfl
theorem yn (l r:List PSpan) (d:Int):memB (l++r) d=(memB l d || memB r d):=by simp [memB]
theorem i9 {l:List PSpan} {d:Int} : memB l d=true↔∃ s,s∈l∧s.from_≤d∧d<s.to:=by simp [memB]
theorem Lk {l r:List PSpan} (h:l.Perm r) (d:Int):memB l d=memB r d:=by
 rw [Ck,i9,i9];grind
theorem B8 : ∀ (l:List PSpan) (d:Int),memB (jZ l) d=(ME d && memB l d)
 | [],d=>by simp [jZ,memB]
 | a::r,d=>by
  have ih:=B8 r d;have e : ∀ b:Bool,(b=decide (0≤d∧d<1048577∧a.from_≤d∧d<a.to))→(b || (ME d && memB r d))=(ME d && memB (a::r) d):=fun b hb=>by grind [eZ,ME]
  cases h:Vl a with
  | true=>
   rw [tF h,eZ,ih];refine e _ ?_;simp only [CL,Ho];grind
  | false=>
   rw [tG h,ih];have h2:=aF h;simp only [CL,Ho] at h2;grind
theorem NrmS.tail {a:PSpan} {r:List PSpan} (h:NrmS (a::r)):NrmS r:=⟨(j7.1 h.gap).2,fun s hs=>h.ok s (fY _ hs)⟩
theorem NrmS.low {a x:PSpan} {r:List PSpan} (h:NrmS (a::r)) (hx:x∈r):a.to<x.from_:=(j7.1 h.gap).1 x hx
theorem NrmS.head {a:PSpan} {r:List PSpan} (h:NrmS (a::r)):0≤a.from_∧a.from_<a.to∧a.to≤1048577:=h.ok a (fp ..)
theorem wT:NrmS []:=⟨.nil,fun s h=>by grind⟩
theorem qg {a:PSpan} {r:List PSpan} (h:NrmS (a::r)):memB (a::r) a.from_=true:=by grind [eZ,cases NrmS]
theorem EN {a:PSpan} {r:List PSpan} (h:NrmS (a::r)) {d:Int} (hd:memB (a::r) d=true):a.from_≤d:=by
 obtain ⟨s,h1,h2,h3⟩:=i9.1 hd;rcases fz.1 h1 with e | e
 ·simp_all
 ·have:=h.low e;grind [cases NrmS]
theorem Ov {a:PSpan} {r:List PSpan} (h:NrmS (a::r)):memB (a::r) a.to=false:=by
 cases q:memB (a::r) a.to with
 | false=>rfl
 | true=>
  obtain ⟨s,h1,h2,h3⟩:=i9.1 q;rcases fz.1 h1 with e | e
  ·simp_all
  ·have:=h.low e;omega
theorem EM {a:PSpan} {r:List PSpan} (h:NrmS (a::r)) (d:Int):memB r d=(decide (a.to≤d) && memB (a::r) d):=by
 rw [eZ];by_cases h1:a.to≤d
 ·grind
 ·have:memB r d=false:=by
   cases q:memB r d with
   | false=>rfl
   | true=>
    obtain ⟨s,h2,h3,h4⟩:=i9.1 q;have:=h.low h2;omega
  grind
theorem yd : ∀ {r s:List PSpan},NrmS r→NrmS s→(∀ d,memB r d=memB s d)→r=s
 | [], [],_,_,_=>rfl
 | [],b::s,_,hs,h=>by grind [qg,ma]
 | a::r, [],hr,_,h=>by grind [qg,ma]
 | a::r,b::s,hr,hs,h=>by
  have h1:b.from_≤a.from_:=EN hs (by grind [qg]);have h2:a.from_≤b.from_:=EN hr (by grind [qg]);have ha:=hr.head;have hb:=hs.head;have h3 : ¬ a.to<b.to:=fun q=>by grind [eZ,Ov]
  have h4 : ¬ b.to<a.to:=fun q=>by grind [eZ,Ov]
  have e:a=b:=by
   obtain ⟨a1,a2⟩:=a;obtain ⟨b1,b2⟩:=b;grind
  subst e;rw [yd hr.tail hs.tail fun d=>by rw [EM hr,EM hs,h]]
def vV (f:Int→Bool) (d:Int) (l:List PSpan):List PSpan:=match f d with
 | false=>l
 | true=>match l with
  | []=> [⟨d,d+1⟩]
  | s::r=>if s.from_=d+1 then ⟨d,s.to⟩::r else ⟨d,d+1⟩::s::r
def vi (f:Int→Bool):Nat→List PSpan
 | 0=> []
 | k+1=>vV f (1048577 - Int.ofNat (k+1)) (vi f k)
theorem MY {f:Int→Bool} {d:Int} {l:List PSpan} (h0:0≤d) (h1:d+1≤1048577) (hl:NrmS l) (hf : ∀ s,s∈l→d+1≤s.from_) :
  NrmS (vV f d l)∧(∀ s,s∈vV f d l→d≤s.from_)∧∀ e,memB (vV f d l) e=((decide (e=d) && f e) || memB l e):=by
 unfold vV;cases hfd:f d with
 | false=>grind
 | true=>
  match l,hl,hf with
  | [],_,_=>
   refine ⟨⟨by simp,fun s hs=>by grind⟩,fun s hs=>by simp_all,fun e=>?_⟩;simp only [eZ,ma,Bool.or_false];grind
  | s::r,hl,hf=>
   have hs:=hl.head;have hs2:=hf s (fp ..);simp only [];by_cases q:s.from_=d+1
   ·rw [if_pos q];refine ⟨⟨j7.2 ⟨fun x hx=>hl.low hx,hl.tail.gap⟩,fun x hx=>?_⟩,fun x hx=>?_,fun e=>?_⟩
    ·grind [cases NrmS]
    ·grind
    ·simp only [eZ];grind
   ·rw [if_neg q];refine ⟨⟨j7.2 ⟨fun x hx=>?_,hl.gap⟩,fun x hx=>?_⟩,fun x hx=>?_,fun e=>?_⟩
    ·have:=hf x hx;rcases fz.1 hx with e | e
     ·grind
     ·have:=hl.low e;grind
    ·rcases fz.1 hx with e | e
     ·grind
     ·exact hl.ok x e
    ·grind
    ·rw [eZ];grind
theorem El (f:Int→Bool) : ∀ k,k≤1048577→NrmS (vi f k)∧(∀ s,s∈vi f k→1048577 - Int.ofNat k≤s.from_)∧∀ e,memB (vi f k) e=(decide (1048577 - Int.ofNat k≤e∧e<1048577) && f e)
 | 0,_=>by
  refine ⟨wT,fun s h=>(by cases h),fun e=>?_⟩;have:decide (1048577 - Int.ofNat 0≤e∧e<1048577)=false:=by simp_all
  rw [this];rfl
 | k+1,hk=>by
  obtain ⟨h1,h2,h3⟩:=El f k (by omega);simp only [aH] at *;have:=MY (f:=f) (d:=1048577 - ((k+1:Nat):Int)) (l:=vi f k) (by omega) (by omega) h1 (fun s hs=>by grind);have h5:vi f (k+1)=vV f (1048577 - ((k+1:Nat):Int)) (vi f k):=by grind [vi]
  grind
theorem Oa (f:Int→Bool) : ∃ l:List PSpan,NrmS l∧∀ d,memB l d=(ME d && f d):=by
 obtain ⟨h1,_,h3⟩:=El f 1048577 (al _);exact ⟨_,h1,fun d=>by simp_all [ME]⟩
noncomputable def nf (f:Int→Bool):List PSpan:=Classical.choose (Oa f)
theorem yf (f:Int→Bool):NrmS (nf f):=(Classical.choose_spec (Oa f)).1
theorem Hl (f:Int→Bool) (d:Int):memB (nf f) d=(ME d && f d):=(Classical.choose_spec (Oa f)).2 d
theorem Ob {f:Int→Bool} {r:List PSpan} (h:NrmS r) (hm : ∀ d,memB r d=(ME d && f d)):r=nf f:=yd h (yf f) fun d=>by grind [Hl]
theorem Oc {f g:Int→Bool} (h : ∀ d,ME d=true→f d=g d):nf f=nf g:=Ob (yf f) fun d=>by
 rw [Hl];grind
theorem RC {l:List PSpan} (h:NrmS l):l=nf (memB l):=Ob h fun d=>by
 cases q:memB l d with
 | false=>simp_all
 | true=>
  obtain ⟨s,h1,h2,h3⟩:=i9.1 q;have:=h.ok s h1;have:ME d=true:=by unfold ME;grind
  simp_all
theorem Ca {α:Type} [Inhabited α] {l:List α} {n:Nat} (h:n<l.length):l.take (n+1)=l.take n++ [gD l n]:=by grind [List.take_add_one,gD]
theorem DK {α:Type} [Inhabited α] {l:List α} {n:Nat} (h:n<l.length):l.drop n=gD l n::l.drop (n+1):=by grind [List.drop_eq_getElem_cons,gD]
theorem sr {α:Type} {l:List α} {n m:Nat} {x:α} (h:n≤m):(l.set m x).take n=l.take n:=by
 apply List.ext_getElem?;grind
theorem Px {α:Type} [Inhabited α] {l:List α} {i k:Nat} {x:α} (h:i<l.length):gD (l.set i x) k=if k=i then x else gD l k:=by
 unfold gD List.getD;grind
theorem re.at {l:List PSpan} (h:re l) {i k:Nat} (hik:i≤k) (hk:k<l.length):(gD l i).from_≤(gD l k).from_:=by
 rcases fX i k with q | q
 ·have:=Ig.1 h i k (by omega) hk q;grind [gD]
 grind
structure MergeI (l cur:List PSpan) (n i:Nat):Prop where
 len:cur.length=l.length
 le:n≤i
 il:i≤l.length
 pos:0<i→0<n
 rest : ∀ k,i≤k→k<l.length→gD cur k=gD l k
 gap : ∀ j k,j<k→k<n→(gD cur j).to<(gD cur k).from_
 ok : ∀ k,k<n→0≤(gD cur k).from_∧(gD cur k).from_<(gD cur k).to∧(gD cur k).to≤1048577
 last:0<n→∀ k,i≤k→k<l.length→(gD cur (n - 1)).from_≤(gD l k).from_
 mem : ∀ d,(memB (cur.take n) d || memB (l.drop i) d)=memB l d
theorem MergeI.start (l:List PSpan):MergeI l l 0 0:=⟨rfl,al _,bN _,fun h=>absurd h (vz _),fun _ _ _=>rfl,fun _ _ _ h=>absurd h (pa _),fun _ h=>absurd h (pa _),fun h=>absurd h (vz _),fun d=>by simp [memB]⟩
theorem MergeI.copy {l cur:List PSpan} {n i:Nat} (h:MergeI l cur n i) (hi:i<l.length) (hs:re l) (hok : ∀ k,k<l.length→0≤(gD l k).from_∧(gD l k).from_<(gD l k).to∧(gD l k).to≤1048577)
  (hn:n=0∨(gD cur (n - 1)).to<(gD cur i).from_):MergeI l (cur.set n (gD cur i)) (n+1) (i+1):=by
 rw [h.rest i (al _) hi] at hn ⊢;have hl:=h.le;have hcl:=h.len;have hg : ∀ k,gD (cur.set n (gD l i)) k=if k=n then gD l i else gD cur k:=fun k=>Px (by omega)
 refine ⟨by simp_all,by omega,by omega,fun _=>by omega,fun k h1 h2=>?_,fun j k h1 h2=>?_,fun k h1=>?_,fun _ k h1 h2=>?_,fun d=>?_⟩
 ·grind [cases MergeI]
 ·rw [hg,hg,if_neg (by omega)];by_cases e:k=n
  ·rw [if_pos e];rcases hn with hn | hn
   ·omega
   ·by_cases e2:j=n - 1
    ·simp_all
    ·have h3:=h.gap j (n - 1) (by omega) (by omega);grind [cases MergeI]
  ·grind [cases MergeI]
 ·rw [hg];by_cases e:k=n
  ·simp_all
  ·grind [cases MergeI]
 ·rw [hg,if_pos (by omega)];exact hs.at (by omega) h2
 ·rw [Ca (by grind),hg,if_pos rfl,sr (al _),yn,← h.mem d,DK hi,eZ,eZ,ma];grind
theorem MergeI.join {l cur:List PSpan} {n i:Nat} (h:MergeI l cur n i) (hi:i<l.length) (hs:re l) (hok : ∀ k,k<l.length→0≤(gD l k).from_∧(gD l k).from_<(gD l k).to∧(gD l k).to≤1048577)
  (hn:0<n) (hle:(gD cur i).from_≤(gD cur (n - 1)).to) (x:Int) (hx:x=Bh (gD cur (n - 1)).to (gD cur i).to):MergeI l (cur.set (n - 1) ⟨(gD cur (n - 1)).from_,x⟩) n (i+1):=by
 rw [h.rest i (al _) hi] at hle;rw [h.rest i (al _) hi,CL] at hx;have hl:=h.le;have hcl:=h.len;have hg : ∀ k,gD (cur.set (n - 1) ⟨(gD cur (n - 1)).from_,x⟩) k=if k=n - 1 then ⟨(gD cur (n - 1)).from_,x⟩ else gD cur k:=fun k=>Px (by omega)
 have h4:=h.ok (n - 1) (by omega);have h5:=hok i hi;have h6:=h.last hn i (al _) hi;refine ⟨by simp_all,by omega,by omega,fun _=>hn,fun k h1 h2=>?_,fun j k h1 h2=>?_,fun k h1=>?_,fun _ k h1 h2=>?_,fun d=>?_⟩
 ·grind [cases MergeI]
 ·rw [hg,hg,if_neg (by omega)];by_cases e:k=n - 1
  ·grind [cases MergeI]
  ·grind [cases MergeI]
 ·rw [hg];by_cases e:k=n - 1
  ·grind
  ·grind [cases MergeI]
 ·grind [cases MergeI]
 ·obtain ⟨m,rfl⟩ : ∃ m,n=m+1:=⟨n - 1,by omega⟩
  simp only [Nat.add_sub_cancel] at *;rw [Ca (by grind),hg,if_pos rfl,sr (al _),yn,← h.mem d,DK hi,eZ (gD l i),Ca (by omega),yn,eZ,eZ,ma,Bool.or_false,Bool.or_false];grind
theorem MergeI.nrm {l cur:List PSpan} {n i:Nat} (h:MergeI l cur n i):NrmS (cur.take n):=by
 have hl:=h.le;have hcl:=h.len;have hil:=h.il;have hlen:(cur.take n).length=n:=by grind
 have hg : ∀ k (hk:k<(cur.take n).length),(cur.take n)[k]=gD cur k:=fun k hk=>by rw [List.getElem_take];unfold gD List.getD;grind
 refine ⟨?_,fun s hs=>?_⟩;all_goals grind [List.pairwise_iff_getElem,List.getElem_of_mem,cases MergeI]
theorem MergeI.done {l cur:List PSpan} {n i:Nat} (h:MergeI l cur n i) (hi:l.length≤i) (d:Int):memB (cur.take n) d=memB l d:=by rw [← h.mem d,DG hi,ma,Bool.or_false]
theorem QV {l l':List PSpan} (hp:l'.Perm (jZ l)) : ∀ k,k<l'.length→0≤(gD l' k).from_∧(gD l' k).from_<(gD l' k).to∧(gD l' k).to≤1048577:=fun k hk=>zt (hp.mem_iff.1 (iY hk))
noncomputable def iG (l:List PSpan):List PSpan:=nf (memB l)
theorem EP {l r:List PSpan} (h:NrmS r) (hm : ∀ d,memB r d=memB (jZ l) d):r=iG l:=Ob h fun d=>by grind [B8]
theorem LU {l:List PSpan} (h:jZ l = []) : []=iG l:=EP wT fun d=>by grind
end Go.Ev
namespace Go.Ev
open Go
theorem IK {zs:List Int} (hs:zs.Pairwise fun a b=>a≤b):(bY zs).Pairwise (fun a b=>a<b)∧∀ z,z∈bY zs↔z∈zs:=by
 generalize hd:zs.toArray=d;have hsz:d.size=zs.length:=by grind
 have hx : ∀ j (hj:j<zs.length),d[j]! = zs[j]:=fun j hj=>by grind
 have mono : ∀ i j,i≤j→j<zs.length→d[i]!≤d[j]!:=fun i j hij hj=>by
  rcases fX i j with q | q
  ·rw [hx i (by omega),hx j hj];exact Ig.1 hs i j (by omega) hj q
  grind
 have key : ∀ m,m≤zs.length→(Lib.compactUpTo d m).Pairwise (fun a b=>a<b)∧(∀ z,z∈Lib.compactUpTo d m→∃ j,j<m∧z=d[j]!)∧∀ j,j<m→d[j]!∈Lib.compactUpTo d m:=by
  intro m;induction m with
  | zero=>simp_all [Lib.compactUpTo]
  | succ m ih=>
   intro hm;obtain ⟨h1,h2,h3⟩:=ih (by omega);rw [Lib.compactUpTo_succ];cases hk:Lib.keeps d m with
   | true=>
    simp only [if_true];have hk':m=0∨d[m]!≠d[m - 1]!:=by grind [Lib.keeps]
    refine ⟨List.pairwise_append.2 ⟨h1,by simp,fun a ha b hb=>?_⟩,fun z hz=>?_,fun j hj=>?_⟩
    ·obtain ⟨j,hj,rfl⟩:=h2 a ha;have hb:b=d[m]!:=by simp_all
     subst hb;have e1:=mono j (m - 1) (by omega) (by omega);have e2:=mono (m - 1) m (by omega) (by omega);omega
    all_goals grind
   | false=>
    simp only [fT,if_false,ez];have hk' : ¬ (m=0∨d[m]!≠d[m - 1]!):=by grind [Lib.keeps]
    grind
 obtain ⟨h1,h2,h3⟩:=key zs.length (al _);have e:bY zs=Lib.compactUpTo d zs.length:=by grind [bY,Lib.compact]
 rw [e];refine ⟨h1,fun z=>⟨fun hz=>?_,fun hz=>?_⟩⟩
 ·grind
 ·obtain ⟨j,hj,rfl⟩:=DH hz;simp_all
theorem NrmS.at {l:List PSpan} (h:NrmS l) {j k:Nat} (hjk:j<k) (hk:k<l.length):(gD l j).to<(gD l k).from_:=by
 have:=Ig.1 h.gap j k (by omega) hk hjk;grind [gD]
theorem NrmS.okAt {l:List PSpan} (h:NrmS l) {k:Nat} (hk:k<l.length):0≤(gD l k).from_∧(gD l k).from_<(gD l k).to∧(gD l k).to≤1048577:=h.ok _ (iY hk)
theorem RP {l:List PSpan} {d:Int} : memB l d=true↔∃ k,k<l.length∧(gD l k).from_≤d∧d<(gD l k).to:=by
 rw [i9];constructor
 ·rintro ⟨s,h1,h2⟩
  obtain ⟨k,hk,e⟩:=DH h1;have:gD l k=s:=by grind [gD]
  grind
 grind [iY]
theorem B6 {a b:Int} : ae (jl a b) 0=true↔a=b:=by
 unfold jl;cases h:ar a b with
 | true => have:=au h;constructor
           ·intro h;cases h
           omega
 | false=>
  have:=aF h;cases h2:ar b a with
  | true => have:=au h2;constructor
            ·intro h;cases h
            omega
  | false=>have:=aF h2;exact ⟨fun _=>by omega,fun _=>rfl⟩
theorem RO {l:List PSpan} (h:NrmS l) (d:Int):iK l d=memB l d:=by
 have hi:=zp (d:=d) h.sort;have hc:=Dk l d;rw [Ck,RP];unfold iK HF;simp only [sy,bK];constructor
 ·rintro (⟨h1,h2⟩ | ⟨h1,h2⟩)
  ·have h1:=au h1;simp only [aH] at h1;have h2:=B6.1 h2;have:=h.okAt (k:=ny l d) (by omega);grind
  ·have h1:=au h1;have h2:=au h2;simp only [aH] at h1;have h3:=au ((hi (ny l d - 1) (by omega)).2 (by omega));grind
 ·rintro ⟨k,hk,h1,h2⟩
  by_cases e:(gD l k).from_=d
  ·left;have e1 : ¬ k<ny l d:=fun q=>by have:=au ((hi k hk).2 q);omega
   have e2 : ¬ ny l d<k:=fun q=>by
    have h3:=h.at q hk;have h4:=h.okAt (k:=ny l d) (by omega);grind [mb]
   have e3:ny l d=k:=by omega
   rw [e3];exact ⟨mb (by simp_all),B6.2 e⟩
  ·right;have e1:k<ny l d:=(hi k hk).1 (mb (by omega));have e2 : ¬ k+1<ny l d:=fun q=>by
    have h3:=h.at (j:=k) (k:=k+1) (by omega) (by omega);have:=au ((hi (k+1) (by omega)).2 q);omega
   grind [mb]
def oG (l:List PSpan):List Int:=l.flatMap fun s=> [s.from_,s.to]
theorem BP (s:PSpan) (r:List PSpan):oG (s::r) = [s.from_,s.to]++oG r:=by simp [oG]
theorem jO : ∀ (l:List PSpan),(oG l).length=2 * l.length
 | []=>rfl
 | s::r=>by rw [BP];simp [jO r];omega
theorem F6 {l:List PSpan} {s:PSpan} (h:s∈l):s.from_∈oG l∧s.to∈oG l:=by
 unfold oG;grind
def jB (g:Int→Bool):List Int→List PSpan
 | []=> []
 | a::r=>match r with
  | []=> []
  | b::_=>match g a with
   | true=>⟨a,b⟩::jB g r
   | false=>jB g r
theorem Ef (g:Int→Bool) (a b:Int) (r:List Int):jB g (a::b::r)=match g a with | true=>⟨a,b⟩::jB g (b::r) | false=>jB g (b::r):=by rw [jB]
def rj:Int→List Int→Int
 | a, []=>a
 | _,b::r=>rj b r
theorem yI : ∀ {r:List Int} {a:Int},(a::r).Pairwise (fun a b=>a<b)→a≤rj a r∧∀ z,z∈r→z≤rj a r
 | [],a,_=>⟨Int.le_refl _,fun z h=>by grind⟩
 | b::r,a,h=>by
  obtain ⟨h1,h2⟩:=j7.1 h;have h3:=h1 b (fp ..);obtain ⟨k1,k2⟩:=yI h2;grind [rj]
theorem Eg {g:Int→Bool} {C:List Int} (hg : ∀ x y,(∀ z,z∈C→z≤x∨y≤z)→∀ d,x≤d→d<y→g d=g x) :
  ∀ (r:List Int) (a:Int),(a::r).Pairwise (fun a b=>a<b)→(∀ z,z∈C→z≤a∨z∈r)→∀ d,memB (jB g (a::r)) d=(decide (a≤d∧d<rj a r) && g d)
 | [],a,_,_,d=>by
  have:decide (a≤d∧d<rj a [])=false:=by grind [rj]
  rw [this];rfl
 | b::r,a,hp,hC,d=>by
  obtain ⟨h1,h2⟩:=j7.1 hp;have hab:=h1 b (fp ..);obtain ⟨hb2,h3⟩:=j7.1 h2;have hl:=(yI h2).1;have ih:=Eg hg r b h2 (fun z hz=>by grind) d;have hc : ∀ d,a≤d→d<b→g d=g a:=hg a b fun z hz=>by grind
  have e0:memB (jB g (a::b::r)) d=((g a && decide (a≤d∧d<b)) || memB (jB g (b::r)) d):=by
   rw [Ef];cases g a with
   | true=>rw [eZ,Bool.true_and]
   | false=>simp_all
  rw [e0,ih,show rj a (b::r)=rj b r from rfl];grind
def gS (A:List PSpan):List Int:=bY (dm (oG A))
theorem J1 (A:List PSpan):(gS A).Pairwise (fun a b=>a<b)∧∀ z,z∈gS A↔z∈oG A:=by
 obtain ⟨h1,h2⟩:=IK (Ce (oG A));exact ⟨h1,fun z=>(h2 z).trans (kq (oG A)).mem_iff⟩
theorem ym {A l:List PSpan} (hl : ∀ s,s∈l→s∈A) {x y:Int} (hz : ∀ z,z∈gS A→z≤x∨y≤z) {d:Int} (h1:x≤d) (h2:d<y):memB l d=memB l x:=by
 have key : ∀ s,s∈l→((s.from_≤d∧d<s.to)↔(s.from_≤x∧x<s.to)):=fun s hs=>by
  obtain ⟨k1,k2⟩:=F6 (hl s hs);grind [J1]
 rw [Ck,i9,i9];grind
theorem KG {op:Bool→Bool→Bool} (h0:op false false=false) (A B:List PSpan) (d:Int):memB (jB (fun d=>op (memB A d) (memB B d)) (gS (A++B))) d=op (memB A d) (memB B d):=by
 obtain ⟨h1,h2⟩:=J1 (A++B);have out : ∀ (z1 z2:Int),(∀ z,z∈gS (A++B)→z1≤z∧z≤z2)→¬ (z1≤d∧d<z2)→op (memB A d) (memB B d)=false:=fun z1 z2 hz hd=>by
  have no : ∀ l:List PSpan,(∀ s,s∈l→s∈A++B)→memB l d=false:=fun l hl=>by
   cases q:memB l d with
   | false=>rfl
   | true=>
    obtain ⟨s,k1,k2,k3⟩:=i9.1 q;obtain ⟨k4,k5⟩:=F6 (hl s k1);grind
  simp_all
 cases hC:gS (A++B) with
 | nil=>
  rw [jB,ma];exact (out (d+1) d (fun z hz=>by grind) (by omega)).symm
 | cons a r=>
  rw [hC] at h1;have hl:=yI h1;have hp:=(j7.1 h1).1;rw [Eg (C:=gS (A++B)) (fun x y hz d h3 h4=>by
   show op (memB A d) (memB B d)=op (memB A x) (memB B x)
   rw [ym (A:=A++B) (fun s hs=>List.mem_append_left _ hs) hz h3 h4,ym (A:=A++B) (fun s hs=>Ie _ hs) hz h3 h4]) r a h1 (fun z hz=>by
   grind) d]
  by_cases q:a≤d∧d<rj a r;all_goals grind
theorem zh (A:List PSpan):(gS A).length≤2 * A.length:=by
 have:=wV (dm (oG A));have h2:=(kq (oG A)).length_eq;grind [jO,gS]
theorem BW {g:Int→Bool} {C:List Int} {x:Nat} (h1:1≤x) (h2:x<C.length):jB g (C.drop (x - 1))=match g (gD C (x - 1)) with | true=>⟨gD C (x - 1),gD C x⟩::jB g (C.drop (x+1 - 1)) | false=>jB g (C.drop (x+1 - 1)):=by grind [DK,Ef]
theorem km {g:Int→Bool} {C:List Int} {x:Nat} (h1:1≤x) (h2:C.length≤x):jB g (C.drop (x - 1)) = []:=by
 have:(C.drop (x - 1)).length≤1:=by simp_all
 match C.drop (x - 1),this with
 | [],_=>rfl
 | [_],_=>rfl
 | _::_::_,h=>simp_all
noncomputable def rb (op:Bool→Bool→Bool) (a b:List PSpan):List PSpan:=nf fun d=>op (memB a d) (memB b d)
theorem lT (l:List PSpan):NrmS (iG l):=yf _
theorem Be (l:List PSpan) (d:Int):memB (iG l) d=(ME d && memB l d):=Hl _ d
theorem L5 {op:Bool→Bool→Bool} (h0:op false false=false) {a b A B:List PSpan} (hA:iG a=A) (hB:iG b=B):iG (jB (fun d=>op (iK A d) (iK B d)) (gS (A++B)))=rb op a b:=by
 have nA:NrmS A:=hA ▸ lT a;have nB:NrmS B:=hB ▸ lT b;have e:(fun d=>op (iK A d) (iK B d))=fun d=>op (memB A d) (memB B d):=funext fun d=>by grind [RO]
 rw [e];unfold iG rb;refine Oc fun d hd=>?_
 rw [KG h0,← hA,← hB,Be,Be,hd,Bool.true_and,Bool.true_and]
end Go.Ev
namespace Go.Ev
open Go
section
variable {H : Type} {enc : TypeId × Value → H} {P : Program} {w : World} {base : Nat} {spare : Nat → Bool} {held : Bool}
inductive VL (M:dj):List AV→List Value→Prop
 | nil:VL M [] []
 | cons {x:AV} {v:Value} {xs:List AV} {vs:List Value} (h:VRel (fun _=>none) M x v) (t:VL M xs vs):VL M (x::xs) (v::vs)
theorem VL.append {M:dj} {xs ys:List AV} {a b:List Value} (h:VL M xs a) (k:VL M ys b):VL M (xs++ys) (a++b):=by
 induction h with
 | nil=>grind
 | cons h _ ih=>exact .cons h ih
theorem VL.at_ {M:dj} {xs:List AV} {a:List Value} (h:VL M xs a) : ∀ (j:Nat) (y:AV),xs[j]? = some y→∃ v,a[j]? = some v∧VRel (fun _=>none) M y v:=by
 induction h with
 | nil=>simp_all
 | cons h _ ih=>grind
theorem VL.one {M:dj} {x:AV} {cs:List Value} (h:VL M [x] cs) : ∃ v,cs = [v]∧VRel (fun _=>none) M x v:=by
 cases h with
 | cons h t=>cases t;simp_all
def Wt (P:Program) (t:TypeId) (d:DataW H):Prop:=∀ m,m∈d.weights P t→m≤reachBytes
theorem pg {e:TypeId} {d:DataW H} {m:Nat} (hm:m∈d.weights P e) : ∀ {l:List (DataW H)},d∈l→m∈DataW.weightsAll P e l
 | [],h=>by grind
 | a::r,h=>by
  unfold DataW.weightsAll;rcases fz.1 h with rfl | h
  ·simp_all
  ·exact Ie _ (pg hm h)
theorem lU {t:TypeId} {d:DataW H} {m:Nat} (hm:m∈d.weights P t) : ∀ {ts:List TypeId} {l:List (DataW H)} (i:Nat),ts[i]? = some t→l[i]? = some d→m∈DataW.weightsEach P ts l
 | [],_,i,h,_=>by simp_all
 | _::_, [],i,_,h=>by simp_all
 | u::ts,a::r,i,h1,h2=>by
  unfold DataW.weightsEach;cases i with
  | zero=>simp_all
  | succ i=>exact Ie _ (lU hm i (by simp_all) (by simp_all))
def Dj (P:Program):List Field→Nat→Nat→Bool
 | [],off,n=>Nat.beq off n
 | f::r,off,n=>Nat.beq f.offset off && Dj P r (off+P.cellsOf f.type) n
def VF (M:dj) (P:Program) (cs:List Value):List Field→List (List AV)→Prop
 | [], []=>True
 | f::fs,xs::xss=>VL M xs ((cs.drop f.offset).take (P.cellsOf f.type))∧VF M P cs fs xss
 | _,_=>False
theorem VF.vl {M:dj} {cs:List Value} : ∀ {fs:List Field} {xss:List (List AV)} {off:Nat},Dj P fs off cs.length=true→VF M P cs fs xss→VL M xss.flatten (cs.drop off)
 | [], [],off,h,_=>by
  have:=o5 h;rw [this,List.drop_length];exact .nil
 | [],_::_,_,_,h=>h.elim
 | _::_, [],_,_,h=>h.elim
 | f::fs,xs::xss,off,h,k=>by
  unfold Dj at h;rw [bK] at h;have ho:=o5 h.1;have h1:=k.1;rw [ho] at h1;have h2:=VF.vl h.2 k.2;have e:cs.drop off=(cs.drop off).take (P.cellsOf f.type)++cs.drop (off+P.cellsOf f.type):=by grind [List.drop_drop,List.take_append_drop]
  rw [List.flatten_cons,e];exact h1.append h2
def TF (enc:TypeId × Value→H) (P:Program) (w:World) (base:Nat) (spare:Nat→Bool) (held:Bool) (n:Nat) (cs:List Value):List Field→Prop
 | []=>True
 | f::fs=>(∃ d p,DataW.trod enc P w base spare held n f.type ((cs.drop f.offset).take (P.cellsOf f.type))=some (d,p)∧Wt P f.type d)∧TF enc P w base spare held n cs fs
theorem TP {n:Nat} {cs:List Value} : ∀ (fs:List Field),(∀ (i:Nat) (f:Field),fs[i]? = some f→∃ d p,DataW.trod enc P w base spare held n f.type ((cs.drop f.offset).take (P.cellsOf f.type))=some (d,p)∧Wt P f.type d)→TF enc P w base spare held n cs fs
 | [],_=>trivial
 | f::fs,h=>⟨h 0 f rfl,TP fs fun i g hg=>h (i+1) g (by simp_all)⟩
theorem ie {t:TypeId} {fs:Array Field} {fuel:Nat} {cs:List Value} {d:DataW H} {p:List MemPlace} (hu:P.underlying t=some (.struct fs)) (hc:Dj P fs.toList 0 (P.cellsOf t)=true)
  (h:DataW.trod enc P w base spare held fuel t cs=some (d,p)) (hw:Wt P t d) :
  ∃ n,fuel=n+1∧TF enc P w base spare held n cs fs.toList∧∀ xss,VF (cX w) P cs fs.toList xss→VL (cX w) xss.flatten cs:=by
 obtain ⟨xs,n,rfl,h1,h2,h3,h4⟩:=DataW.trod_struct hu h;simp only [sk] at h1;obtain ⟨rfl,_⟩:=h1;refine ⟨n,rfl,TP _ fun i f hf=>?_,fun xss hx=>?_⟩
 ·have hf':fs[i]? = some f:=by simp_all
  have hi:i<xs.length:=by grind
  have e:=h4 i f hf';rw [lY hi] at e;refine ⟨xs[i].1,xs[i].2,e,fun m hm=>hw m ?_⟩;unfold DataW.weights;rw [hu];exact lU hm i (by simp_all) (by grind)
 ·have:=VF.vl (off:=0) (by simp_all) hx;simp_all
theorem gK {t:TypeId} {fuel:Nat} {cs:List Value} {d:DataW H} {p:List MemPlace} (hu:P.underlying t=some (.int .i64)) (h:DataW.trod enc P w base spare held fuel t cs=some (d,p)) : ∃ x,VL (cX w) [.int .i64 x] cs:=by
 obtain ⟨x,rfl,_⟩:=DataW.trod_int hu h;exact ⟨x, .cons (.int _ _) .nil⟩
theorem m9 {t:TypeId} {fuel:Nat} {cs:List Value} {d:DataW H} {p:List MemPlace} (hu:P.underlying t=some .string) (h:DataW.trod enc P w base spare held fuel t cs=some (d,p)) : ∃ s,VL (cX w) [.str s] cs:=by
 obtain ⟨⟨⟨s⟩⟩,rfl,_⟩:=DataW.trod_string hu h;exact ⟨s, .cons (.str _) .nil⟩
theorem Jd {α:Type} {Q:Nat→α→Prop} : ∀ (n:Nat),(∀ i,i<n→∃ x,Q i x)→∃ l:List α,l.length=n∧∀ i x,l[i]? = some x→Q i x
 | 0,_=>⟨[],rfl,fun i x h=>by simp_all⟩
 | n+1,h=>by
  obtain ⟨l,h1,h2⟩:=Jd n fun i hi=>h i (by omega)
  obtain ⟨y,hy⟩:=h n (by omega);refine ⟨l++ [y],by simp_all,fun i x hx=>?_⟩;grind
theorem WS {x:AV} (h:x.cells.all ct=true):Sc x:=fun y hy=>na.1 h y hy
theorem HW {α:Type} (el:α→AV) (fit:α→Prop) {t e:TypeId} {fuel:Nat} {cs:List Value} {d:DataW H} {p:List MemPlace} (hu:P.underlying t=some (.slice e)) (hsz:Nat.blt 0 (P.cellsOf e)=true) (hby:Nat.blt 0 (P.bytesOf e)=true)
  (hel : ∀ x,(el x).cells.length=P.cellsOf e) (hsc : ∀ x,(el x).cells.all ct=true) (htop : ∀ x,(el x).top=0)
  (hrec : ∀ m,m<fuel→∀ cs d p,DataW.trod enc P w base spare held m e cs=some (d,p)→Wt P e d→∃ x,fit x∧VL (cX w) (el x).cells cs)
  (h:DataW.trod enc P w base spare held fuel t cs=some (d,p)) (hw:Wt P t d) :
  ∃ l:List α,l.length<2 ^ 47∧(∀ x,x∈l→fit x)∧VL (cX w) [.ls (l.map el)] cs:=by
 rw [dq] at hsz hby;simp only [decide_eq_true_eq] at hsz hby;rcases DataW.trod_slice hu h with ⟨rfl,_⟩ | ⟨a,len,cap,elems,rest,n,rfl,rfl,h1,h2,h3,h4,h5,h6,_,_⟩
 ·exact ⟨[],Nat.two_pow_pos 47,fun x h=>absurd h (List.not_mem_nil), .cons .lsn .nil⟩
 ·simp only [sk] at h1;obtain ⟨rfl,_⟩:=h1;have hwl:len<2 ^ 47:=by
   have:=hw ((elems.length+rest.length) * P.bytesOf e) (by grind [DataW.weights]);have h7:elems.length≤(elems.length+rest.length) * P.bytesOf e:=bG (Nat.le_add_right _ _) (Nat.le_mul_of_pos_right _ hby);have:elems.length≤reachBytes:=bG h7 this;rw [h5] at this;exact o4 this (by decide)
  have el0 : ∀ i,i<len→∃ x,fit x∧∃ cs:List Value,cs.length=P.cellsOf e∧(∀ j,j<P.cellsOf e→w.cell? ((a.add (i * P.cellsOf e)).add j)=cs[j]?)∧VL (cX w) (el x).cells cs:=by
   intro i hi;have k5:=h6 i hi;have hi':i<elems.length:=by omega
   rw [lY hi'] at k5;simp only [Option.bind_eq_some_iff] at k5;obtain ⟨cs,c1,c2⟩:=k5;obtain ⟨z1,z2⟩:=CQ c1;obtain ⟨x,f1,f2⟩:=hrec n (by omega) cs elems[i].1 elems[i].2 c2 (fun m hm=>hw m (by
    unfold DataW.weights;rw [hu];exact fY _ (List.mem_append_left _ (pg hm (j8.2 ⟨elems[i],Cj hi',rfl⟩)))))
   grind
  obtain ⟨l,q1,q2⟩:=Jd len el0;refine ⟨l,by omega,fun x hx=>?_, .cons ?_ .nil⟩
  ·obtain ⟨i,hi⟩:=DO.1 hx;grind
  ·have q1':(l.map el).length=len:=by simp_all
   generalize hys:l.map el=ys at *;have q3 : ∀ i y,ys[i]? = some y→∃ cs:List Value,cs.length=P.cellsOf e∧(∀ j,j<P.cellsOf e→w.cell? ((a.add (i * P.cellsOf e)).add j)=cs[j]?)∧VL (cX w) y.cells cs:=by grind
   have q4 : ∀ y,y∈ys→y.cells.length=P.cellsOf e∧Sc y:=by grind [WS]
   have q5:aY ys=0:=by grind [aX]
   have addadd : ∀ i j:Nat,a.spot=none→(a.add i).add j=⟨a.block,a.off+i+j,none⟩:=by
    intro i j hs;obtain ⟨blk,off,spot⟩:=a;grind [Addr.add]
   have spot:ys≠ []→a.spot=none:=by
    intro hne;obtain ⟨x,hx⟩ : ∃ x,ys[0]? = some x:=by
     cases ys with
     | nil=>simp_all
     | cons x r=>exact ⟨x,rfl⟩
    grind [qD,Addr.add]
   have cell : ∀ (i j:Nat) (x:AV),ys[i]? = some x→j<P.cellsOf e→∃ c v,cX w a.block=some c∧c[a.off+i * P.cellsOf e+j]? = some v∧∀ y,x.cells[j]? = some y→VRel (fun _=>none) (cX w) y v:=by
    intro i j x hx hj;obtain ⟨cs,c1,c2,c3⟩:=q3 i x hx;have:=c2 j hj;rw [lY (by omega),addadd _ _ (spot (by grind))] at this;obtain ⟨_,c,m1,m2⟩:=qD this;refine ⟨c,_,m1,m2,fun y hy=>?_⟩;obtain ⟨v,g1,g2⟩:=c3.at_ j y hy;simp_all
   refine .lsp ?_ q5;by_cases hne:ys = []
   ·subst hne;simp at q1';subst q1';exact .ps (sz:=P.cellsOf e) (c:=#[]) (by simp) (fun h=>by grind) (fun h=>absurd rfl h) (fun x h=>by simp_all) (fun i x j y h=>by simp_all)
   ·have hlen:0<ys.length:=pc.2 hne;obtain ⟨x0,hx0⟩ : ∃ x,ys[ys.length - 1]? = some x:=⟨ys[ys.length - 1],by simp⟩
    obtain ⟨c,v0,m1,m2,_⟩:=cell (ys.length - 1) (P.cellsOf e - 1) x0 hx0 (by omega);have hc:=(vq.1 m2).1;have hfit:a.off+ys.length * P.cellsOf e≤c.size:=by
     have h1:(ys.length - 1) * P.cellsOf e+P.cellsOf e=ys.length * P.cellsOf e:=by rw [← pe];grind
     omega
    have:=VRel.ps (pl:=fun _=>none) (M:=cX w) (xs:=ys) (tight:=false) (a:=a) (cap:=cap) (sz:=P.cellsOf e) (c:=c) (by omega) (fun h=>by grind) (fun _=>⟨spot hne,m1,hfit,hsz⟩) q4
     (fun i x j y hx hy=>by
      obtain ⟨r1,_⟩:=q4 x (bh hx);have hj:j<P.cellsOf e:=by grind
      obtain ⟨c',v,n1,n2,n3⟩:=cell i j x hx hj;simp_all)
    simp_all
theorem kp {α:Type} (el:α→AV) (fit:α→Prop) {t e:TypeId} {fuel:Nat} {cs:List Value} {d:DataW H} {p:List MemPlace} (hu:P.underlying t=some (.slice e)) (hsz:Nat.blt 0 (P.cellsOf e)=true) (hby:Nat.blt 0 (P.bytesOf e)=true)
  (hel : ∀ x,(el x).cells.length=P.cellsOf e) (hsc : ∀ x,(el x).cells.all ct=true) (htop : ∀ x,(el x).top=0)
  (hrec : ∀ m,m<fuel→∀ cs d p,DataW.trod enc P w base spare held m e cs=some (d,p)→Wt P e d→∃ x,fit x∧VL (cX w) (el x).cells cs)
  (h:DataW.trod enc P w base spare held fuel t cs=some (d,p)) (hw:Wt P t d) :
  ∃ l:List α,l.length<2 ^ 60∧(∀ x,x∈l→fit x)∧VL (cX w) [.ls (l.map el)] cs:=by
 have ⟨l,h1,h2⟩:=HW el fit hu hsz hby hel hsc htop hrec h hw;grind
end
end Go.Ev
namespace Go.Ev
open Go
structure PPair where
 a:Int
 b:Int
deriving Inhabited,DecidableEq
structure PRef where
 act:Int
 item:Int
deriving Inhabited,DecidableEq
def mN (u:TUnit):List PWord:=u.head++u.words
mutual
def mE:TUnit→List PWord
 | ⟨_,_,_,_,_,h,w,ks⟩=>(h++w)++kW ks
def kW:List TUnit→List PWord
 | []=> []
 | k::r=>mE k++kW r
end
theorem KX (u:TUnit):mE u=mN u++kW u.kids:=by obtain ⟨a,b,c,d,e,h,w,ks⟩:=u;rw [mE];rfl
theorem Cz:kW [] = []:=by rw [kW]
theorem sU (k:TUnit) (r:List TUnit):kW (k::r)=mE k++kW r:=by rw [kW]
theorem qp {k:Int} : ∀ {m:List (Int × Int)},gi k m=none→¬ k∈m.map (·.1)
 | [],_=>by simp
 | (i,x)::r,h=>by
  simp only [gi] at h;cases e:ae k i with
  | true=>grind
  | false=>
   rw [e] at h;have:=qp h;grind [F3]
section
variable {u w' : TUnit} {ws : List PWord} {w : PWord} {r : List PWord} {ks : List TUnit} {m x : List (Int × Int)} {c B : Int}
end
theorem VRel.ls0 {pl:Pl} {M:dj} {x:Value} (h:VRel pl M (.ls []) x):VRel pl M .nils x∨VRel pl M (.ps [] false) x:=by
 cases h with
 | lsn=>exact .inl .nils
 | lsp h _=>simp_all
theorem DB {P:Program} {G:eY} {f:FuncId} {a b c:List AV} {h:AHeap} {Ψ:AV→AHeap→Prop} (hs : ∀ pl M vs,VRels pl M c vs→VRels pl M a vs∨VRels pl M b vs) (h1:aD P G f a h Ψ) (h2:aD P G f b h Ψ):aD P G f c h Ψ:=fun pl M w vs hg hr hv=>(hs pl M vs hv).elim (h1 pl M w vs hg hr) (h2 pl M w vs hg hr)
theorem VRels.first {pl:Pl} {M:dj} {x y z:AV} {r:List AV} {vs:Array Value} (h:VRels pl M (z::r) vs) (hs : ∀ v,VRel pl M z v→VRel pl M x v∨VRel pl M y v):VRels pl M (x::r) vs∨VRels pl M (y::r) vs:=by
 obtain ⟨h1,h2⟩:=h;have lift : ∀ u,VRel pl M u (vs.getD 0 undef)→VRels pl M (u::r) vs:=fun u hu=>⟨h1,fun j y hj=>by
  cases j with
  | zero=>grind
  | succ j=>simp_all⟩
 exact (hs _ (h2 0 z rfl)).imp (lift x) (lift y)
end Go.Ev
namespace Go.Ev
open Go
theorem ap {n b m:Nat} (h1:n≤m) (h2:m≤2 ^ 40) (h3:m * b≤2 ^ 40):small n b=true:=by
 unfold small;have h4:n * b≤m * b:=eW b h1;grind [Nat.ble_eq_true_of_le]
def VR (d:Int):List Int→List Int
 | []=> [d]
 | x::r=>bif ar x d then x::VR d r else bif ae x d then x::r else d::x::r
def f8 (ws:List PWord) (l:List Int):List Int:=ws.foldl (fun l w=>VR w.act l) l
end Go.Ev
namespace Go.Ev
open Go
def Rx {α:Type} : Result α→World
 | .ok _ w=>w
 | .halt _ w=>w
def gW:GStep→World
 | .go _ w _=>w
 | .comm _ _ _ _ w _=>w
 | .spawn _ _ w _=>w
 | .count _ w _=>w
 | .timer _ _ w _=>w
 | .alone _ _ w _=>w
 | .newcoro _ _ _ w _=>w
 | .coroswitch _ _ _ w _=>w
 | .collect _ w _=>w
 | .watch _ w _=>w
 | .ended _ w _=>w
theorem kH (es:Array Event) (g:GStep):gW (GStep.after es g)=gW g:=by cases g <;> rfl
theorem Ix {α:Type} : ∀ (q:Ask α) (w:World),w.drawn≤(w.ask q).2.drawn
 | .done a,w=>al _
 | .ask what range k,w=>by
  rw [World.ask];split
  ·exact Ix (k 0) w
  ·exact bG (nb _) (Ix _ { w with drawn:=w.drawn+1 })
theorem Na (w:World) (c:Sys):w.drawn≤(w.sys c).2.drawn:=by
 unfold World.sys;have h:=Ix (Kernel.perform c w.os) w;grind
theorem wa {p:Program} {w w':World} {at_:Addr} {u:TypeId} {k:Addr} {v:Value} {b:Bool} {l:List Addr} (h:w.viewStore p at_ u k v b = .ok (w',l)):w'.drawn=w.drawn:=by
 unfold World.viewStore at h;simp only [bind,Except.bind,pure,Except.pure] at h
 repeat' split at h
 all_goals first | cases h;done | (injection h with h;injection h with h1 h2;rw [← h1])
theorem zq {p:Program} {w w':World} {a:Addr} {v:Value} {b:Bool} {l:List Addr} (h:w.farStore p a v b = .ok (w',l)):w'.drawn=w.drawn:=by
 unfold World.farStore at h
 repeat' split at h
 all_goals first | cases h;done | grind [wa]
theorem C7 (w:World) (a:Addr) (n:Nat):(w.freeze a n).drawn=w.drawn:=by unfold World.freeze;grind
theorem NB (p:Program) {α:Type} (s:Sem α) : ∀ (w:World),w.drawn≤(Rx (s.run p w)).drawn:=by
 induction s with
 | pure a=>exact fun w=>al _
 | load m a k ih=>
  intro w;simp only [Sem.run]
  repeat' split
  all_goals first | exact ih _ _ | exact al _
 | store m a v k ih=>
  intro w;cases v
  all_goals simp only [Sem.run]
  all_goals first
   | exact al _
   | ((repeat' split);all_goals first | exact al _ | exact ih (w.setCell _ _) | (rename_i e;refine bG ?_ (ih _);rw [zq e];exact al _))
 | new o k ih=>grind [Sem.run]
 | shape r k ih=>grind [Sem.run]
 | freeze a n k ih=>intro w;simp only [Sem.run];refine bG ?_ (ih _);simp_all [C7]
 | frozen a k ih=>grind [Sem.run]
 | getObj r k ih=>
  intro w;simp only [Sem.run]
  repeat' split
  all_goals first | exact ih _ _ | exact al _
 | setObj r o k ih=>
  intro w;simp only [Sem.run]
  repeat' split
  all_goals first | exact ih { w with heap:=w.heap.setIfInBounds r o } | exact al _
 | choose q k ih=>
  intro w;simp only [Sem.run];grind
 | sys c k ih=>grind [Sem.run,Na]
 | program k ih=>grind [Sem.run]
 | mark m k ih=>grind [Sem.run]
 | halt h=>exact fun w=>al _
theorem ch {p:Program} {α:Type} {s:Sem α} {w:World} {r:Result α} (h:s.run p w=r):w.drawn≤(Rx r).drawn:=h ▸ NB p s w
theorem RU {p:Program} {α:Type} {s:Sem α} {w:World} {es es':Array Event} {r:Result α} (h:s.runT p w es=(r,es')):w.drawn≤(Rx r).drawn:=by
 have:=Sem.runT_fst p s w es;rw [h] at this;exact ch this.symm
theorem IQ (w:World) (fd:Nat) (text:ByteArray) (o:Outcome):w.drawn≤(gW (endWith w fd text o)).drawn:=by
 unfold endWith;simp only [];have h:=Na w (.write fd text);split;all_goals (rename_i e;rw [e] at h)
 all_goals repeat' split
 all_goals exact h
theorem wZ (fr:Frame) (m:String) (w:World):w.drawn≤(gW (endThrow fr m w)).drawn:=al _
theorem qK (p:Program) (fr:Frame) (v:Value) (w:World):w.drawn≤(gW (endPrinting p fr v w)).drawn:=by
 unfold endPrinting;simp only []
 repeat' split
 all_goals exact al _
theorem wX (p:Program) (fr:Frame) (cs:List Frame) (d:Option Dying) (m:String) (w:World):w.drawn≤(gW (endFatal p fr cs d m w)).drawn:=by
 unfold endFatal;simp only [];split;all_goals (rename_i e;exact ch e)
theorem GP (p:Program) (fr:Frame) (d:Dying) (f:Fatal) (w:World):w.drawn≤(gW (writeOn p fr d f w)).drawn:=by
 unfold writeOn;split
 ·exact al _
 ·simp only [];split;all_goals (rename_i e;exact RU e)
theorem VK (p:Program) (fr:Frame) (d:Dying) (w:World):w.drawn≤(gW (die p fr d w)).drawn:=by
 unfold die;split
 ·grind [GP]
 ·split
  ·split
   ·exact al _
   grind [IQ]
  ·simp only [];split
   ·exact al _
   ·split;all_goals (rename_i e;exact ch e)
   ·rw [kH];split;all_goals first | (rename_i e;exact ch ((Sem.runT_fst ..).symm.trans e)) | skip
    ·rename_i e;exact bG (ch ((Sem.runT_fst ..).symm.trans e)) (qK ..)
    ·exact al _
   ·exact al _
theorem qY (p:Program) (main:Bool) (fr:Frame) (cs:List Frame) (d:Option Dying) (v:Value) (w:World):w.drawn≤(gW (doReturn p main fr cs d v w)).drawn:=by
 unfold doReturn
 repeat' split
 all_goals exact al _
theorem r9 {c:Prop} [Decidable c] {a b:GStep} {n:Nat} (h1:n≤(gW a).drawn) (h2:n≤(gW b).drawn):n≤(gW (if c then a else b)).drawn:=by grind
theorem wo (p:Program) (fr:Frame) (cs:List Frame) (dy:Option Dying) (d:Deferred) (w:World):w.drawn≤(gW (callDeferred p fr cs dy d w)).drawn:=by
 unfold callDeferred;refine r9 ?_ ?_
 ·exact al _
 ·simp only [];rw [kH];split;all_goals (rename_i e;have h:=ch ((Sem.runT_fst ..).symm.trans e))
  all_goals first | exact h | exact bG h (wX ..) | ((repeat' split) <;> exact h)
theorem Kz (p:Program) (main:Bool) (fr:Frame) (cs:List Frame) (dy:Option Dying) (w:World):w.drawn≤(gW (unwind p main fr cs dy w)).drawn:=by
 unfold unwind;split
 ·simp only [];rw [kH];split;all_goals (rename_i e;exact ch ((Sem.runT_fst ..).symm.trans e))
 ·grind [wo]
 ·split
  ·exact al _
  ·split
   ·exact al _
   ·split
    ·exact al _
    ·split
     ·split
      ·exact al _
      ·split;all_goals (rename_i e;exact ch e)
     ·split
      ·grind [qK]
      ·exact al _
  ·split
   ·grind [qY]
   ·simp only [];rw [kH];split;all_goals (rename_i e;have h:=ch ((Sem.runT_fst ..).symm.trans e))
    all_goals first | exact h | exact bG h (qY ..)
theorem PG (p:Program) (fr:Frame) (cs:List Frame) (dy:Option Dying) (g:Nat) (w:World):w.drawn≤(gW (early p fr cs dy g w)).drawn:=by
 unfold early;simp only []
 repeat' split
 all_goals first | exact al _ | (rename_i e;exact ch e) | (rename_i e _;exact ch e) | (rename_i e _ _;exact ch e) | (rename_i e _ _ _ _;exact ch e)
theorem tL (p:Program) (listen:Bool) (fr:Frame) (cs:List Frame) (dy:Option Dying) (s:Sem Next) (w:World):w.drawn≤(gW (stepG.apply p listen fr cs dy s w)).drawn:=by
 unfold stepG.apply;simp only [];rw [kH];have h0:w.drawn≤(Rx (if listen=true then Sem.runT p s w #[] else (Sem.run p s w,#[])).fst).drawn:=by
  cases listen
  ·grind [NB]
  ·exact ch (Sem.runT_fst ..).symm
 generalize (if listen=true then Sem.runT p s w #[] else (Sem.run p s w,#[])).fst=r at h0 ⊢;split;all_goals first | exact h0 | exact bG h0 (wX ..) | exact bG h0 (PG ..) | exact bG h0 (wZ ..) | skip
 all_goals repeat' split
 all_goals first | exact h0 | exact bG h0 (wZ ..) | skip
theorem Rp (p:Program) (listen:Bool) (fr:Frame) (cs:List Frame) (dy:Option Dying) (w:World):w.drawn≤(gW (stepG.oper p listen fr cs dy w)).drawn:=by
 unfold stepG.oper;split
 ·exact al _
 ·split;all_goals exact tL ..
theorem SF (p:Program) (main listen:Bool) (fr:Frame) (cs:List Frame) (dy:Option Dying) (w:World):w.drawn≤(gW (stepG.exec p main listen fr cs dy w)).drawn:=by
 have lv : ∀ (l : Nat) (jump : Option Code), w.drawn ≤ (gW (GStep.after (seen p fr.fn ((Instr.endRound l jump).runT p w #[]).snd) (match ((Instr.endRound l jump).runT p w #[]).fst with | .ok v w => doReturn p main fr cs dy v w | .halt _ w => .ended (.stuck "range over a function: no such loop" (fr.pos p)) w))).drawn := by
  intro l jump;rw [kH];have h0:=ch (Sem.runT_fst p (Instr.endRound l jump) w #[]).symm;split;all_goals (rename_i e;rw [e] at h0)
  ·exact bG h0 (qY ..)
  ·exact h0
 unfold stepG.exec;simp only [];split;all_goals first | exact al _ | exact tL .. | skip
 ·split
  ·exact r9 (al _) (al _)
  grind
 ·split
  ·exact r9 (al _) (al _)
  grind
 ·split <;> exact al _
 ·rename_i id k _;cases exitTo id k with
  | none=>simp only [Option.elim];split;exact r9 (al _) (al _);grind
  | some k'=>exact al _
 ·rename_i id k _;cases gotoIn id k with
  | none=>simp only [Option.elim];split;exact r9 (al _) (al _);grind
  | some k'=>exact al _
 ·rw [kH];split
  ·rename_i e;exact bG (ch ((Sem.runT_fst ..).symm.trans e)) (tL ..)
  ·rename_i e;exact ch ((Sem.runT_fst ..).symm.trans e)
 ·rw [kH];split <;> rename_i e <;> exact ch ((Sem.runT_fst ..).symm.trans e)
 ·rename_i row _ _ _;cases Extern.next row with
  | none=>exact al _
  | some e=>grind [tL]
 ·refine r9 (al _) ?_;split <;> rename_i e <;> exact ch e
 ·exact r9 (Rp ..) (al _)
theorem Nd (p:Program) (main listen:Bool) (g:Goroutine) (w:World):w.drawn≤(gW (stepG p main g w listen)).drawn:=by
 unfold stepG;grind [VK,SF,Kz]
def sD (n:Nat):Stepped→Prop
 | .next m=>n≤m.world.drawn
 | .ended _ _=>True
theorem sD.trans {n k:Nat} {s:Stepped} (h:n≤k) (g:sD k s):sD n s:=by
 cases s with
 | next m=>exact bG h g
 | ended o w=>trivial
theorem OI {c:Prop} [Decidable c] {a b:Stepped} {n:Nat} (h1:sD n a) (h2:sD n b):sD n (if c then a else b):=by grind
theorem Jc (p:Program) (gs:Array Goroutine) (rest:Rest) (w:World):sD w.drawn (look p gs rest w):=by
 unfold look;simp only [];split
 ·refine OI trivial ?_;split
  ·trivial
  ·split <;> rename_i e <;> first | exact ch e | trivial
 ·trivial
theorem wy {rest:Rest} {cases:Array CommCase} {w w':World} (h:waitingAt rest cases w=some w'):w'.drawn=w.drawn:=by
 unfold waitingAt at h
 repeat' split at h
 all_goals first | (cases h;done) | (cases h;rfl)
theorem C0 {c:Prop} [Decidable c] {a b:Stepped × Array MemOp} {n:Nat} (h1:sD n a.1) (h2:sD n b.1):sD n (if c then a else b).1:=by grind
theorem zo (p:Program) (rest:Rest) (gs:Array Goroutine) (i:Nat) (g:Goroutine) (cs:Array CommCase) (bl:Bool) (sh:CommShape) (w:World):sD w.drawn (communicate p rest gs i g cs bl sh w).1:=by
 unfold communicate;simp only [];refine C0 trivial (C0 (C0 ?_ (al _)) ?_)
 ·split
  ·rename_i e;exact vU (wy e).symm
  ·trivial
 ·split
  ·trivial
  ·rename_i w1 e;have h:w.drawn≤w1.drawn:=ch e;clear e;split
   ·split
    ·rename_i e;exact bG h (ch e)
    ·trivial
   ·exact h
   ·exact h
   ·split
    ·exact h
    ·split
     ·rename_i e;exact bG h (ch e)
     ·trivial
   ·exact h
   ·exact h
   ·trivial
theorem Nt (p:Program) (m:Machine) (k:Nat):sD m.world.drawn (serve p m k):=by
 unfold serve;split
 ·trivial
 ·exact al _
 ·simp only [];split
  ·trivial
  ·exact al _
theorem AW {m m':Machine} {op:TimerOp} {v:Value} (h:timerOp m op = .ok (v,m')):m'.world.drawn=m.world.drawn:=by
 have rt : ∀ (m:Machine) (k:Nat) (t:Timer) (a b:Nat),(retime m k t a b).2.world.drawn=m.world.drawn:=by
  intro m k t a b;unfold retime drain;grind
 cases op with
 | new t=>
  simp only [timerOp] at h
  repeat' split at h
  all_goals first | (cases h;done) | (cases h;rfl)
 | stop var=>
  simp only [timerOp,timerOp.named] at h;grind
 | reset var a b=>
  simp only [timerOp,timerOp.named,timerOp.opened] at h;split at h
  ·rename_i e;have e2 : ∀ m2:Machine,(if waitedFor m var=true then match Kernel.withPoller m.world.os with | .ok os=>some { m with world:= { m.world with os } } | .error _=>none else some m)=some m2→m2.world.drawn=m.world.drawn:=by
    intro m2 e
    repeat' split at e
    all_goals first | (cases e;done) | (cases e;rfl)
   grind
  ·grind
 | deadline a b c d=>simp only [timerOp] at h;cases h;rfl
theorem RY (p:Program) (m:Machine) (i:Nat) (b:Bool):sD m.world.drawn (runT p m i b).1:=by
 unfold runT;simp only [];have h:=Nd p (i == 0) b (m.gs.swapAt! i { (default:Goroutine) with status:= .finished }).1 m.world;generalize stepG p (i == 0) (m.gs.swapAt! i { (default:Goroutine) with status:= .finished }).1 m.world b=s at h ⊢;cases s
 all_goals simp only []
 all_goals try exact h
 all_goals try trivial
 ·exact sD.trans h (zo ..)
 ·exact OI trivial h
 ·split
  ·rename_i e;exact bG h (vU (AW e).symm)
  ·split
   ·rename_i e;cases e;exact h
   ·trivial
  ·trivial
  ·trivial
 ·split
  ·exact h
  ·split
   ·rename_i e;cases e;exact h
   ·trivial
  ·trivial
 ·exact sD.trans h (Jc ..)
def MC (n:Nat):Move→Prop
 | .goroutine m _=>n≤m.world.drawn
 | .machine s _=>sD n s
theorem MC.trans {n k:Nat} {s:Move} (h:n≤k) (g:MC k s):MC n s:=by
 cases s with
 | goroutine m i=>exact bG h g
 | machine s o=>exact sD.trans h g
theorem zD (p:Program) (m:Machine):MC m.world.drawn (askOn p m):=by
 have pick : ∀ (m:Machine) (rs:List Nat),MC m.world.drawn (match (choose (.sched rs.length)).run p m.world with
   | .halt _ w => .machine (.ended (.stuck "sched" "") w)
   | .ok k world=>
    if rs.length≤1 then .goroutine { m with world } (rs.getD k 0) else
    match (choose (.extern "sched.slice" 65536)).run p world with
    | .halt _ w => .machine (.ended (.stuck "sched.slice" "") w)
    | .ok n world=> .goroutine { m with world,rest:= { m.rest with slice:=if n=0 then none else some (rs.getD k 0,n) } } (rs.getD k 0)):=by
  intro m rs;split
  ·trivial
  ·rename_i w1 e;have h:m.world.drawn≤w1.drawn:=ch e;split
   ·exact h
   ·split
    ·trivial
    ·rename_i e;exact bG h (ch e)
 unfold askOn;simp only [];split
 ·trivial
 ·rename_i k w1 e;have h:m.world.drawn≤w1.drawn:=ch e;clear e;split
  ·exact sD.trans h (Nt p { m with world:=w1 } _)
  ·split
   ·split
    ·exact h
    ·split
     ·exact h
     ·split <;> trivial
   ·split
    ·exact MC.trans h (pick { m with world:=w1 } _)
    ·split
     ·trivial
     ·rename_i w2 e;exact MC.trans (bG h (ch e)) (pick { m with world:=w2 } _)
     ·rename_i e;exact bG h (ch e)
     ·rename_i k2 w2 e;exact MC.trans (bG h (ch e)) (pick (Machine.advanceTo { m with world:=w2 } _) _)
theorem J9 (p:Program) (m:Machine):MC m.world.drawn (ask p m):=by
 unfold ask;split
 ·split
  ·trivial
  ·rename_i w1 e;have h:m.world.drawn≤w1.drawn:=ch e;have h2:=Jc p m.gs m.rest w1;split
   ·rename_i e2;rw [e2] at h2;exact MC.trans (bG h h2) (zD ..)
   ·exact sD.trans h h2
  ·rename_i w1 _ e;have h:m.world.drawn≤w1.drawn:=ch e;exact MC.trans h (zD p { m with world:=w1 })
 grind [zD]
theorem RF (p:Program) (m:Machine):MC m.world.drawn (move p m):=by
 unfold move;split
 ·split
  ·exact al _
  ·trivial
 ·split
  ·split
   ·exact al _
   ·exact J9 p { m with rest:= { m.rest with slice:=none } }
  grind [J9]
theorem Q8 (p:Program) (m:Machine):sD m.world.drawn (step p m):=by
 unfold step stepT;have h:=RF p m;split
 ·rename_i e;rw [e] at h;exact sD.trans h (RY ..)
 ·rename_i e;rw [e] at h;exact h
theorem I4 (p:Program) : ∀ (n:Nat) (m m':Machine),runN p n m = .next m'→m.world.drawn≤m'.world.drawn
 | 0,m,m',h=>by cases h;omega
 | n+1,m,m',h=>by
  rw [runN] at h;have h1:=Q8 p m;split at h
  ·rename_i e;rw [e] at h1;exact bG h1 (I4 p n _ _ h)
  simp_all
theorem Nc {p:Program} {m m':Machine} (h:Steps p m m'):m.world.drawn≤m'.world.drawn:=by
 obtain ⟨n,h⟩:=h;exact I4 p n m m' h
theorem Gh {p:Program} {f:FuncId} {args:Array Value} {w:World} {R:Ending→World→Prop} (h:Calls p f args w R):Calls p f args w fun e w'=>R e w'∧((∃ v,e = .returned v)→w.drawn≤w'.drawn):=by
 intro cs;obtain ⟨e,w',fr,h1,h2,h3,h4⟩:=h cs;refine ⟨e,w',fr,⟨h1,?_⟩,h2,h3,h4⟩
 rintro ⟨v,rfl⟩
 exact Nc (m:=lone _ cs w) (m':=lone fr cs w') h2
end Go.Ev
namespace Go.Ev
open Go Go.RowKit
section
variable {P : Program} {G : eY} {pl : Pl} {M : dj} {h : AHeap} {w w' : World} {f : FuncId} {args : List AV} {v : AV}
theorem co.below (hr:co pl M h w) (hb:Below w.heap.size w w'):co pl M h w':=
 ⟨hr.dom,fun id p o h1 h2=>by rw [hb.block _ (hr.blk id p h1)];exact hr.obj id p o h1 h2,fun id p h1=>DM (hr.blk id p h1) hb.size,hr.inj,
  fun b c h1=>by rw [hb.block _ (hr.memLt h1)];exact hr.imm b c h1,hr.sep⟩
theorem cL.below (hb:Below w.heap.size w w') (hd:w.drawn≤w'.drawn):cL h pl M w h pl M w':=⟨mM.refl _,fun _ _ h=>h,fun _ _ h=>h,hb.size,fun b h1 _=>hb.block b h1,fun id p h=> .inl ⟨p,h,rfl⟩,fun _ _ _ h=>h,fun _ _ h _=>h,fun _ _ h=> .inl h,hb.os,hb.tape,hb.output,hd⟩
theorem aM.below (hE : ∀ vs w,(callFunc f vs).run P w = .ok (.enter f vs) w)
  (hC : ∀ (pl:Pl) (M:dj) (w:World) (vs:Array Value) (h:AHeap),oT G pl M→co pl M h w→VRels pl M args vs→∃ cv,VRel pl M v cv∧Calls P f vs w fun e w'=>e = .returned cv∧Below w.heap.size w w'):aM P G f args v:=by
 intro h pl M w vs hG hr hv;obtain ⟨cv,h1,h2⟩:=hC pl M w vs h hG hr hv;refine .inl ⟨hE _ _,Calls.mono (Gh h2) fun e w' ⟨⟨he,hb⟩,hd⟩=>?_⟩;exact ⟨cv,v,h,he,⟨rfl,rfl⟩,pl,M,h1,hr.below hb,cL.below hb (hd ⟨_,he⟩),al _⟩
theorem aM.calls (hGT:ib G) (hE : ∀ vs w,(callFunc f vs).run P w = .ok (.enter f vs) w) (hp:aM P G f args v) (hG:oT G pl M) (hr:co pl M h w) {vs:Array Value} (hv:VRels (fun _=>none) M args vs) :
  Calls P f vs w fun e w'=>(∃ cv pl' M',e = .returned cv∧VRel pl' M' v cv)∧Below w.heap.size w w'∧w.drawn≤w'.drawn:=by
 have r0:co (fun _=>none) M AHeap.none w:=⟨fun _ _ h=>(by grind),fun _ _ _ h _=>(by grind),fun _ _ h=>(by grind),fun _ _ _ _ h _ _=>(by grind),hr.imm,fun _ _ h=>(by grind)⟩
 rcases hp AHeap.none (fun _=>none) M w vs (hG.none hGT) r0 hv with ⟨_,h2⟩ | ⟨cv,w1,v1,h1,e1,_,_⟩
 ·refine Calls.mono h2 fun e w' ⟨cv,v1,h1,he,⟨e1,e2⟩,pl',M',g1,g2,g3,_⟩=>?_
  subst e1;exact ⟨⟨cv,pl',M',he,g1⟩,⟨g3.os,g3.tape,g3.out,g3.size,fun b hb=>g3.kept b hb fun id p h=>(by grind)⟩,g3.drawn⟩
 ·grind
end
end Go.Ev
namespace Go.Ev
open Go
def O1 (lo hi:Int) (c:UInt8):Bool:=aj (ar (.ofNat c.toNat) lo || ar hi (.ofNat c.toNat))
abbrev jR:UInt8→Bool:=O1 48 57
abbrev Vk:UInt8→Bool:=O1 65 90
def dS (p:UInt8→Bool) (s:aO):Nat:=(s.takeWhile p).length
section
variable {p : UInt8 → Bool} {s : aO}
theorem I5:dS p s≤s.length:=(List.takeWhile_prefix p).length_le
theorem I6 : ∀ {s:aO} {i:Nat},i<dS p s→p (gD s i)=true
 | [],i,h=>by simp_all [dS]
 | c::r,i,h=>by
  cases hc:p c with
  | false=>simp_all [dS]
  | true=>
   cases i with
   | zero=>exact hc
   | succ i=>exact I6 (s:=r) (by simp_all [dS])
theorem En : ∀ {s:aO},dS p s<s.length→p (gD s (dS p s))=false
 | [],h=>by simp_all
 | c::r,h=>by
  cases hc:p c with
  | false=>simp [dS,hc,gD]
  | true=>
   have h2:dS p r<r.length:=by simp_all [dS]
   have:=En (s:=r) h2;simp_all [dS,gD]
theorem ud : ∀ {s:aO},dS p s=s.length↔s.all p=true
 | []=>by simp [dS]
 | c::r=>by
  have ih:dS p r=r.length↔r.all p=true:=ud;cases hc:p c with
  | false=>simp [dS,hc]
  | true=>simp_all [dS]
end
theorem UH {lo hi:Int} {c:UInt8} (h1:ar hi (.ofNat c.toNat)=true):O1 lo hi c=false:=by grind [O1]
def jH (s:aO):Bool:=aj (ar (.ofNat (s.take (dS jR s)).length) 1) && (aj (ar 4 (.ofNat (s.take (dS jR s)).length)) && (aj (ae (.ofNat (gD (s.take (dS jR s)) 0).toNat) 48) && (aj (ar 3 (.ofNat (s.drop (dS jR s)).length)) && (s.drop (dS jR s)).all Vk)))
def rJ (s:aO):Bool:=aj (ar (.ofNat s.length) 1) && (aj (ar 24 (.ofNat s.length)) && s.all (O1 33 126))
def pB (l:List aO):Bool:=aj (ar 256 (.ofNat l.length)) && l.all rJ
theorem CP:({ data:=#[] } : ByteArray).data.toList=([]:List UInt8):=rfl
theorem PC (s:aO):ar (.ofNat s.length) 1=dH s []:=by cases s <;> rfl
def da {α:Type} (p:α→Bool):List α→Nat→Int
 | [],_=> -1
 | x::r,i=>bif p x then Int.ofNat i else da p r (i+1)
theorem kG {α:Type} (p:α→Bool) : ∀ (l:List α) (i:Nat),ar (da p l i) 0=aj (l.any p)
 | [],_=>rfl
 | x::r,i=>by
  unfold da;rw [List.any_cons];cases h:p x with
  | true=>rfl
  | false=>simp_all [kG]
section
variable {α : Type} {p : α → Bool} {l x r : List α} {w : α} {j : Nat}
theorem nO (h1:l.drop j=x) (h2:x=w::r):l.length - (w::r).length=j∧l.length - r.length=j+1:=by grind
theorem lF (h1:l.drop j=x) (h2:x=w::r) (h3:da p l 0=da p (w::r) (l.length - (w::r).length)) (h4:p w=true):da p l 0=Int.ofNat j:=by rw [h3,(nO h1 h2).1,da,h4];rfl
theorem jL (h1:l.drop j=x) (h2:x=w::r) (h3:da p l 0=da p (w::r) (l.length - (w::r).length)) (h4:p w=false):da p l 0=da p r (l.length - r.length):=by rw [h3,(nO h1 h2).1,(nO h1 h2).2,da,h4];rfl
end
def mG (s:PStep):Bool:=ae s.kind 0 && dH s.label []
def sm (s:PStep):Bool:=ar 0 s.kind && (aj (ar 7 s.kind) && jH s.label)
def MW:List PStep→Bool
 | []=>true
 | s::r=>(mG s || sm s) && r.all sm
def kJ (p:List PStep):Bool:=MW p && aj (ar 9 (.ofNat p.length))
def GC (p r:List PStep):Bool:=bif Nat.beq r.length p.length then MW r else r.all sm
theorem MX {p:List PStep} : MW p=GC p p:=by simp_all [GC]
theorem Tk {p:List PStep} : GC p []=true:=by unfold GC;cases Nat.beq ([]:List PStep).length p.length <;> rfl
theorem Di {p x r:List PStep} {w:PStep} {j:Nat} (h1:p.drop j=x) (h2:x=w::r) (h3:MW p=GC p (w::r)):MW p=((bif ae (Int.ofNat j) 0 then (mG w || sm w) else sm w) && GC p r):=by
 obtain ⟨e1,e2⟩:=nO h1 h2;have e3:=congrArg List.length (h1.trans h2);simp only [xd,cE] at e1 e2 e3;have f1:Nat.beq r.length p.length=false:=by cases h:Nat.beq r.length p.length with | false=>rfl | true=>grind [Nat.eq_of_beq_eq_true]
 rw [h3];unfold GC;rw [f1];cases j with
 | zero=>
  have f2:Nat.beq (w::r).length p.length=true:=by simp_all
  rw [f2];rfl
 | succ j=>
  have f2:Nat.beq (w::r).length p.length=false:=by cases h:Nat.beq (w::r).length p.length with | false=>rfl | true=>simp_all
  rw [f2];rfl
def cM:Int→aO
 | 0=> [98,111,111,107]
 | 1=> [112,97,114,116]
 | 2=> [115,101,99,116,105,111,110]
 | 3=> [112,97,114,97,103,114,97,112,104]
 | 4=> [116,97,98,108,101]
 | 5=> [114,111,119]
 | 6=> [99,101,108,108]
 | 7=> [110,111,116,101]
 | _=> []
def G6:Int→List Int
 | 0=> [1,2]
 | 1=> [2]
 | 2=> [3,4,7]
 | 3=> [3,4,7]
 | 4=> [5]
 | 5=> [6]
 | _=> []
def iO (p k:Int):Bool:=(G6 p).any (ae k)
theorem HA {k:Int} (h:k<0∨7<k):cM k = []:=by
 unfold cM;grind
theorem G5 {k:Int} (h:k<0∨7<k):G6 k = []:=by
 unfold G6;grind
end Go.Ev
namespace Go.Ev
open Go Go.RowKit Go.Proofs
structure ClassOf (p:UInt8→Bool) (q:Nat→Bool):Prop where
 low : ∀ c:UInt8,c.toNat<128→q c.toNat=aj (p c)
 high : ∀ n,128≤n→q n=true
 none : ∀ c:UInt8,128≤c.toNat→p c=false
theorem So {s:aO} {i:Nat} (h:i<s.length) (h2:i<ByteArray.size ⟨⟨s⟩⟩):(ByteArray.mk ⟨s⟩)[i]'h2=gD s i:=by
 simp [gD,List.getD,lY h];rfl
theorem tY {p:UInt8→Bool} {q:Nat→Bool} (hc:ClassOf p q) (s:aO) : ∀ (f pos:Nat),pos≤dS p s→s.length≤pos+f→Lib.idxFuncFrom q true ⟨⟨s⟩⟩ f pos=(bif Nat.beq (dS p s) s.length then -1 else Int.ofNat (dS p s))
 | f,pos,h1,h2=>by
  have hl:=I5 (p:=p) (s:=s);have hsz:ByteArray.size ⟨⟨s⟩⟩=s.length:=rfl;by_cases he:pos<s.length
  ·cases f with
   | zero=>omega
   | succ f=>
    unfold Lib.idxFuncFrom;rw [hsz,if_pos he];have hb:=So he (by rw [hsz];exact he);by_cases hr:pos<dS p s
    ·have hp:=I6 hr;have ha:(gD s pos).toNat<128:=by
      rcases fX (gD s pos).toNat 128 with h | h
      ·exact h
      ·rw [hc.none _ h] at hp;cases hp
     rw [decode_ascii _ pos (by rw [hsz];exact he) (by rw [hb];exact ha),hb];rw [if_neg (by rw [hc.low _ ha,hp];decide)];exact tY hc s f (pos+1) hr (by omega)
    ·have e:dS p s=pos:=by omega
     have hp:=En (p:=p) (s:=s) (by omega);rw [e] at hp;have hq:q (Utf8.decode ⟨⟨s⟩⟩ pos).1=true:=by
      rcases fX (gD s pos).toNat 128 with h | h
      ·rw [decode_ascii _ pos (by rw [hsz];exact he) (by rw [hb];exact h),hb,hc.low _ h,hp];rfl
      ·exact hc.high _ (decode_high _ pos (by rw [hsz];exact he) (by rw [hb];exact h)).1
     rw [if_pos hq,e];have f1:Nat.beq pos s.length=false:=by cases h:Nat.beq pos s.length with | false=>rfl | true=>have:=o5 h;omega
     rw [f1];rfl
  ·have e:dS p s=s.length:=by omega
   rw [Lib.idxFuncFrom_end _ _ _ _ _ (by rw [hsz];exact he),e,py];rfl
theorem vN {p:UInt8→Bool} {q:Nat→Bool} (hc:ClassOf p q) (s:aO):Lib.idxFunc q true ⟨⟨s⟩⟩=(bif Nat.beq (dS p s) s.length then -1 else Int.ofNat (dS p s)):=tY hc s _ 0 (bN _) (by show s.length≤0+s.length;omega)
section
variable {P : Program} {G : eY} {f g : FuncId}
theorem BU {pl:Pl} {M:dj} {w:World} {h:AHeap} (hGT:ib G) (hg2 : ∀ args w,(callFunc g args).run P w = .ok (.enter g args) w) {q:Nat→Bool} {qI:Int→Bool} (hp : ∀ r:Int,aM P G g [.int .i32 r] (.bool (qI r))) (hq : ∀ n:Nat,qI (.ofNat n)=q n)
  (hG:oT G pl M) (hr:co pl M h w):PredGrows P g #[] q w:=by
 intro W x _ hb;refine Calls.mono (aM.calls hGT hg2 (hp (.ofNat x)) hG (hr.below hb) (vs:=#[.int .i32 (.ofNat x)]) ⟨rfl,fun j y hj=>?_⟩) fun e w' ⟨⟨cv,pl',M',he,hv⟩,hb',_⟩=>?_
 ·cases j with
  | zero=>simp at hj;subst hj;exact .int _ _
  | succ j=>simp_all
 grind [cases VRel]
theorem yS (hGT:ib G) (hE : ∀ vs w,(callFunc f vs).run P w = .ok (.enter f vs) w) (hg2 : ∀ args w,(callFunc g args).run P w = .ok (.enter g args) w) {q:Nat→Bool} {qI:Int→Bool}
  (hC : ∀ (s:ByteArray) (w:World),PredGrows P g #[] q w→Calls P f #[.string s, .func (.func g) #[] #[]] w fun e w'=>e = .returned (.int .i64 (Lib.idxFunc q true s))∧Below w.heap.size w w')
  (hp : ∀ r:Int,aM P G g [.int .i32 r] (.bool (qI r))) (hq : ∀ n:Nat,qI (.ofNat n)=q n) {p:UInt8→Bool} (hc:ClassOf p q) (s:aO) :
  aM P G f [.str s, .func (.func g) [] []] (.int .i64 (bif Nat.beq (dS p s) s.length then -1 else Int.ofNat (dS p s))):=by
 refine aM.below hE fun pl M w vs h hG hr hv=>?_
 obtain ⟨a,b,rfl,hv1,hv2⟩:=zG hv;have e2:=yK hv2;subst e2;cases hv1
 rw [← vN hc s];exact ⟨_, .int _ _,hC ⟨⟨s⟩⟩ w (BU hGT hg2 hp hq hG hr)⟩
theorem tD (hGT:ib G) (hE : ∀ vs w,(callFunc f vs).run P w = .ok (.enter f vs) w) (hg2 : ∀ args w,(callFunc g args).run P w = .ok (.enter g args) w) {q:Nat→Bool} {qI:Int→Bool}
  (hC : ∀ (s:ByteArray) (w:World),PredGrows P g #[] q w→Calls P f #[.string s, .func (.func g) #[] #[]] w fun e w'=>e = .returned (.bool (decide (0≤Lib.idxFunc q true s)))∧Below w.heap.size w w')
  (hp : ∀ r:Int,aM P G g [.int .i32 r] (.bool (qI r))) (hq : ∀ n:Nat,qI (.ofNat n)=q n) {p:UInt8→Bool} (hc:ClassOf p q) (s:aO) :
  aM P G f [.str s, .func (.func g) [] []] (.bool (aj (s.all p))):=by
 refine aM.below hE fun pl M w vs h hG hr hv=>?_
 obtain ⟨a,b,rfl,hv1,hv2⟩:=zG hv;have e2:=yK hv2;subst e2;cases hv1
 have e:aj (s.all p)=decide (0≤Lib.idxFunc q true ⟨⟨s⟩⟩):=by
  rw [vN hc s];cases ha:s.all p with
  | true=>rw [(ud (p:=p)).2 ha,py];rfl
  | false=>
   have:Nat.beq (dS p s) s.length=false:=by
    cases hb:Nat.beq (dS p s) s.length with
    | false=>rfl
    | true=>grind [ud,Nat.eq_of_beq_eq_true]
   simp_all
 rw [e];exact ⟨_, .bool _,hC ⟨⟨s⟩⟩ w (BU hGT hg2 hp hq hG hr)⟩
end
theorem Gb {lo hi:Nat} (h:hi<128):ClassOf (O1 (Int.ofNat lo) (Int.ofNat hi)) fun n=>ar (Int.ofNat n) (Int.ofNat lo) || ar (Int.ofNat hi) (Int.ofNat n) where
 low c _:=by unfold O1;simp_all
 high n hn:=by rw [show ar (Int.ofNat hi) (Int.ofNat n)=true from mb (by grind)];simp_all
 none c hn:=UH (mb (by grind))
end Go.Ev
namespace Go.Ev
open Go Go.RowKit
section
variable {P : Program} {G : eY} {f : FuncId}
theorem G8 {pl:Pl} {M:dj} {w:World} {h:AHeap} (hr:co pl M h w) {l:List aO} {a:Addr} {n cap:Nat} (hv:VRel pl M (.ps (l.map mr) false) (.slice (some a) n cap)) (hne:l≠ []) :
  n=l.length∧n≤cap∧a=⟨a.block,a.off,none⟩∧a.block<w.heap.size∧∀ (j:Nat) (x:ByteArray),(l.map fun s=>(⟨⟨s⟩⟩:ByteArray))[j]? = some x→w.cell? ⟨a.block,a.off+j,none⟩=some (.string x):=by
 cases hv with
 | ps hl ht hm hs hc=>
  rename_i sz c;have hne':l.map mr≠ []:=by simp_all
  obtain ⟨m1,m2,m3,m4⟩:=hm hne';obtain ⟨t,fr,hb⟩:=hr.imm _ _ m2;have hsz:sz=1:=by
   cases l with
   | nil=>simp_all
   | cons s r=>exact ((hs (mr s) (by simp)).1).symm
  subst hsz;refine ⟨by simp,hl,by rw [← m1],hr.memLt m2,fun j x hj=>?_⟩;rw [pd] at hj;obtain ⟨s,e1,rfl⟩:=DI.1 hj;have hlt:j<l.length:=(gZ.1 e1).1;have q:=hc j (mr s) 0 (.str s) (by simp_all) rfl;rw [Nat.mul_one,o6] at q;have hin:a.off+j<c.size:=by grind
  have e2:c[a.off+j]? = some (c.getD (a.off+j) undef):=by simp_all
  simp only [World.cell?,hb];simp only [Option.isSome_none,fT,if_false];rw [e2];cases hq:c.getD (a.off+j) undef <;> rw [hq] at q <;> cases q
  rfl
theorem Lc (hE : ∀ vs w,(callFunc f vs).run P w = .ok (.enter f vs) w)
  (hC : ∀ (bk o c:Nat) (xs:List ByteArray) (sep:ByteArray) (w:World),(∀ (j:Nat) x,xs[j]? = some x→w.cell? ⟨bk,o+j,none⟩=some (.string x))→bk<w.heap.size→xs.length≤140737488355328→xs.length≤c→
   (Lib.join (xs.map (·.data.toList)) sep.data.toList).length≤140737488355328→
   Calls P f #[.slice (some ⟨bk,o,none⟩) xs.length c, .string sep] w fun e w'=>e = .returned (.string ⟨(Lib.join (xs.map (·.data.toList)) sep.data.toList).toArray⟩)∧Below w.heap.size w w')
  (hN : ∀ (a:Option Addr) (c:Nat) (sep:ByteArray) (w:World),Calls P f #[.slice a 0 c, .string sep] w fun e w'=>e = .returned (.string ⟨#[]⟩)∧w'=w)
  (l:List aO) (sep:aO) (h1:l.length≤140737488355328) (h2:(Lib.join l sep).length≤140737488355328):aM P G f [.ls (l.map mr), .str sep] (.str (Lib.join l sep)):=by
 refine aM.below hE fun pl M w vs h hG hr hv=>?_
 obtain ⟨a,b,rfl,hv1,hv2⟩:=zG hv;cases hv2
 have nil (p:Option Addr) (cap:Nat) (hl:l = []) : ∃ cv,VRel pl M (.str (Lib.join l sep)) cv∧Calls P f #[.slice p 0 cap, .string ⟨⟨sep⟩⟩] w fun e w'=>e = .returned cv∧Below w.heap.size w w':=by
  subst hl;exact ⟨.string ⟨⟨[]⟩⟩, .str _,Calls.mono (hN p cap ⟨⟨sep⟩⟩ w) fun e w' ⟨he,hw⟩=>⟨he,hw ▸ Below.refl _ _⟩⟩
 generalize hx:l.map mr=xs at hv1;cases hv1 with
 | lsn=>simp_all
 | lsp hp ht=>
  subst hx;by_cases hl:l = []
  ·subst hl;cases hp with
   | ps=>simp_all
  ·have hp':=hp;cases hp with
   | ps=>
    rename_i a cap sz c _ _ _ _ _;obtain ⟨e1,e2,e3,e4,e5⟩:=G8 hr hp' hl;have e6:(l.map fun s=>(⟨⟨s⟩⟩:ByteArray)).map (·.data.toList)=l:=by rw [List.map_map];exact List.map_id l
    have:=hC a.block a.off cap (l.map fun s=>⟨⟨s⟩⟩) ⟨⟨sep⟩⟩ w e5 e4 (by grind) (by grind) (by grind);rw [e6,← e3,bH,← e1] at this;exact ⟨.string ⟨⟨Lib.join l sep⟩⟩, .str _,this⟩
theorem Ep (hE : ∀ vs w,(callFunc f vs).run P w = .ok (.enter f vs) w)
  (hC : ∀ (s:ByteArray) (c:Nat) (w:World),c≤9223372036854775807→s.size * c≤140737488355328→Calls P f #[.string s, .int .i64 c] w fun e w'=>e = .returned (.string ⟨(Lib.repeatL s.data.toList c).toArray⟩)∧Below w.heap.size w w')
  (s:aO) (c:Nat) (h1:c≤9223372036854775807) (h2:s.length * c≤140737488355328):aM P G f [.str s, .int .i64 (.ofNat c)] (.str (Lib.repeatL s c)):=by
 refine aM.below hE fun pl M w vs h hG hr hv=>?_
 obtain ⟨a,b,rfl,hv1,hv2⟩:=zG hv;cases hv1;cases hv2
 exact ⟨.string ⟨⟨Lib.repeatL s c⟩⟩, .str _,hC ⟨⟨s⟩⟩ c w h1 h2⟩
theorem Kk (hE : ∀ vs w,(callFunc f vs).run P w = .ok (.enter f vs) w)
  (hC : ∀ (s cs:ByteArray) (w:World),s.size≤9223372036854775807→cs.size<4294967281→(∀ (j:Nat) b,cs.data.toList[j]? = some b→b.toNat<128)→
   Calls P f #[.string s, .string cs] w fun e w'=>e = .returned (.string ⟨(Lib.trimS s.data.toList cs.data.toList).toArray⟩)∧Below w.heap.size w w')
  (s cs:aO) (h1:s.length≤9223372036854775807) (h2:cs.length<4294967281) (h3 : ∀ b,b∈cs→b.toNat<128):aM P G f [.str s, .str cs] (.str (Lib.trimS s cs)):=by
 refine aM.below hE fun pl M w vs h hG hr hv=>?_
 obtain ⟨a,b,rfl,hv1,hv2⟩:=zG hv;cases hv1;cases hv2
 exact ⟨.string ⟨⟨Lib.trimS s cs⟩⟩, .str _,hC ⟨⟨s⟩⟩ ⟨⟨cs⟩⟩ w h1 h2 fun j b hj=>h3 b (bh hj)⟩
end
end Go.Ev
namespace Go.Ev
open Go
structure PId where
 a:Int
 i:Int
 n:Int
 deriving Inhabited,DecidableEq
noncomputable def aV (p:PId):AV:= .agg [.int .i64 p.a, .int .i64 p.i, .int .i64 p.n]
theorem IX (p:PId):(aV p).top=0:=rfl
def bV (u:TUnit):PId:=⟨u.act,u.item,u.n⟩
def bw (p q:PId):Bool:=ae p.a q.a && (ae p.i q.i && ae p.n q.n)
theorem tk {p q:PId} (h:bw p q=true):p=q:=by
 unfold bw at h;rw [bK,bK] at h;obtain ⟨a,b,c⟩:=p;obtain ⟨d,e,g⟩:=q;grind [je]
theorem ka (p:PId):bw p p=true:=by simp [bw,bZ]
abbrev fL (p:PId) (u:TUnit):Bool:=bw (bV u) p
theorem HE:KeyOf PId true 3 [(0,1),(1,1),(2,1)] aV bw where
 eq a b:=by
  show wm [.int .i64 a.a, .int .i64 a.i, .int .i64 a.n] [.int .i64 b.a, .int .i64 b.i, .int .i64 b.n] [(0,1),(1,1),(2,1)]=_
  simp only [wm,jX,QN,H7,kZ,bw];cases h1:ae a.a b.a <;> cases h2:ae a.i b.i <;> cases h3:ae a.n b.n <;> rfl
 t a b h:=tk h
 refl a:=ka a
 same a:=by simp [aV,lE,jY,jc,kZ,bZ]
 top a:=rfl
mutual
def nU:TUnit→Nat
 | ⟨_,_,_,_,_,_,_,ks⟩=>1+dM ks
def dM:List TUnit→Nat
 | []=>0
 | k::r=>nU k+dM r
end
mutual
def mA:TUnit→Nat
 | ⟨_,_,_,_,_,_,_,ks⟩=>kX ks
def kX:List TUnit→Nat
 | []=>0
 | k::r=>Nat.max (1+mA k) (kX r)
end
mutual
def bc:TUnit→List TUnit
 | ⟨x1,x2,x3,x4,x5,x6,x7,ks⟩=>⟨x1,x2,x3,x4,x5,x6,x7,ks⟩::dx ks
def dx:List TUnit→List TUnit
 | []=> []
 | k::r=>bc k++dx r
end
mutual
def aA (p:PId):TUnit→List TUnit
 | ⟨x1,x2,x3,x4,x5,x6,x7,ks⟩=>bif fL p ⟨x1,x2,x3,x4,x5,x6,x7,ks⟩ then [⟨x1,x2,x3,x4,x5,x6,x7,ks⟩] else match cY p ks with
  | []=> []
  | y::t=>⟨x1,x2,x3,x4,x5,x6,x7,ks⟩::y::t
def cY (p:PId):List TUnit→List TUnit
 | []=> []
 | k::r=>match aA p k with
  | []=>cY p r
  | y::t=>y::t
end
theorem iI (u:TUnit):nU u=1+dM u.kids:=by cases u;rw [nU];rfl
theorem lr:dM []=0:=by rw [dM]
theorem ba (k:TUnit) (r:List TUnit):dM (k::r)=nU k+dM r:=by rw [dM]
theorem JP (u:TUnit):mA u=kX u.kids:=by cases u;rw [mA];rfl
theorem BS:kX []=0:=by rw [kX]
theorem IJ (k:TUnit) (r:List TUnit):kX (k::r)=Nat.max (1+mA k) (kX r):=by rw [kX]
theorem dW (u:TUnit):bc u=u::dx u.kids:=by cases u;rw [bc];rfl
theorem fg:dx [] = []:=by rw [dx]
theorem bB (k:TUnit) (r:List TUnit):dx (k::r)=bc k++dx r:=by rw [dx]
def dQ (u:TUnit):List PId:=(bc u).map bV
def hJ (l:List TUnit):List PId:=(dx l).map bV
theorem mT (u:TUnit):dQ u=bV u::hJ u.kids:=by unfold dQ hJ;rw [dW];rfl
theorem qn:hJ [] = []:=by unfold hJ;rw [fg];rfl
theorem fN (k:TUnit) (r:List TUnit):hJ (k::r)=dQ k++hJ r:=by grind [dQ,hJ,bB]
theorem CI : ∀ {l:List TUnit} {k:TUnit},k∈l→nU k≤dM l
 | x::r,k,h=>by
  rw [ba];rcases fz.1 h with rfl | h
  ·omega
  ·have:=CI h;omega
theorem gN {u k:TUnit} (h:k∈u.kids):nU k<nU u:=by rw [iI u];have:=CI h;omega
theorem Hn (u:TUnit):0<nU u:=by grind [iI]
theorem xZ : ∀ (l:List TUnit),l.length≤dM l
 | []=>by simp_all
 | k::r=>by
  rw [ba,cE];have:=xZ r;grind [Hn]
theorem bj (u:TUnit):u.kids.length<nU u:=by grind [iI,xZ]
theorem K3 {l:List TUnit} (h : ∀ k,k∈l→(bc k).length=nU k):(dx l).length=dM l:=by
 induction l with
 | nil=>rw [fg,lr];rfl
 | cons k r ih=>grind [bB,ba]
theorem EB : ∀ (u:TUnit),(bc u).length=nU u:=TUnit.ind fun u ih=>by grind [dW,iI,K3]
theorem tU (u:TUnit):(dQ u).length=nU u:=by grind [dQ,EB]
theorem PN {l:List TUnit} {n:Nat} (h : ∀ k,k∈l→1+mA k≤n):kX l≤n:=by
 induction l with
 | nil=>grind [BS]
 | cons k r ih=>grind [IJ]
theorem DY : ∀ (u:TUnit),mA u<nU u:=TUnit.ind fun u ih=>by
 have:kX u.kids≤dM u.kids:=PN fun k hk=>by have:=ih k hk;have:=CI hk;omega
 grind [JP,iI]
section
variable {p : PId} {u w : TUnit} {r : List TUnit}
theorem f9 (u:TUnit):aA p u=bif fL p u then [u] else match cY p u.kids with | []=> [] | y::t=>u::y::t:=by cases u;rw [aA];rfl
theorem kY:cY p [] = []:=by rw [cY]
theorem oZ (k:TUnit) (r:List TUnit):cY p (k::r)=match aA p k with | []=>cY p r | y::t=>y::t:=by rw [cY]
def cZ (p:PId) (u:TUnit):Bool:=aj (aA p u).isEmpty
theorem y8 (h:cZ p u=false):aA p u = []:=by grind [cZ]
theorem uM (h:cZ p u=true) : ∃ y t,aA p u=y::t:=by
 unfold cZ at h;cases e:aA p u with
 | nil=>grind
 | cons x r=>simp_all
theorem ko (h:cZ p u=true):aA p u≠ []:=by grind [uM]
theorem sd (h:fL p u=true):aA p u = [u]:=by rw [f9,h];rfl
theorem C5 (h:fL p u=true):cZ p u=true:=by unfold cZ;rw [sd h];rfl
theorem ic (h:cZ p w=false):cY p (w::r)=cY p r:=by rw [oZ,y8 h]
theorem ng (h:cZ p w=true):cY p (w::r)=aA p w:=by grind [uM,oZ]
theorem NW (h:fL p u=false) (h2:cY p u.kids=cY p []):aA p u = []:=by rw [f9,h,h2,kY];rfl
theorem Fe (h:fL p u=false) (h2:cY p u.kids=cY p []):cZ p u=false:=by unfold cZ;rw [NW h h2];rfl
theorem Ir (h:fL p u=false) (h2:cY p u.kids=cY p (w::r)) (h3:cZ p w=true):aA p u=u::aA p w:=by grind [f9,ng,uM]
theorem Sg (h:fL p u=false) (h2:cY p u.kids=cY p (w::r)) (h3:cZ p w=true):cZ p u=true:=by unfold cZ;rw [Ir h h2 h3];rfl
end
theorem ll {p:PId} : ∀ (u:TUnit),(aA p u).length≤nU u:=TUnit.ind fun u ih=>by
 rw [f9];cases fL p u with
 | true=>exact Hn u
 | false=>
  have key : ∀ (r:List TUnit),(∀ k,k∈r→k∈u.kids)→(cY p r).length≤dM r:=by
   intro r;induction r with
   | nil=>grind [kY]
   | cons k r ihr=>grind [oZ,ba]
  grind [iI]
def bx:TUnit:=⟨0,0,0,0, [], [], [], []⟩
noncomputable def eu (p:PId) (u:TUnit):TUnit:=bif cZ p u then gD (aA p u) ((aA p u).length - 1) else bx
theorem It {p:PId} : ∀ (u:TUnit) (x:TUnit),x∈aA p u→x∈bc u:=TUnit.ind fun u ih=>by
 intro x hx;rw [f9] at hx;rw [dW];cases h:fL p u with
 | true=>simp_all
 | false=>
  rw [h] at hx;simp only [cond_false] at hx;have key : ∀ (r:List TUnit),(∀ k,k∈r→k∈u.kids)→∀ x,x∈cY p r→x∈dx r:=by
   intro r;induction r with
   | nil=>grind [kY]
   | cons k r ihr=>grind [oZ,bB]
  grind
noncomputable def pZ (p:Int × aO):AV:= .agg [.int .i64 p.1, .str p.2]
def mn (a b:Int × aO):Bool:=ae a.1 b.1 && dH a.2 b.2
theorem qW : ∀ (s:aO),dH s s=true
 | []=>rfl
 | c::r=>by simp only [dH,qW r,Bool.and_true];simp_all
theorem F5 : ∀ {a b:aO},dH a b=true→a=b
 | [], [],_=>rfl
 | c::r,d::q,h=>by
  simp only [dH,bK] at h;rw [F5 h.2,UInt8.toNat_inj.1 (o5 h.1)]
theorem Jo:KeyOf (Int × aO) true 2 [(0,1),(1,2)] pZ mn where
 eq a b:=by
  show wm [.int .i64 a.1, .str a.2] [.int .i64 b.1, .str b.2] [(0,1),(1,2)]=_
  simp only [wm,jX,QN,H7,kZ,mn];cases h1:ae a.1 b.1 <;> cases h2:dH a.2 b.2 <;> rfl
 t a b h:=by
  simp only [mn,bK] at h;grind [je,F5]
 refl a:=by simp [mn,bZ,qW]
 same a:=by simp [pZ,lE,jY,jc,kZ,bZ,qW]
 top a:=rfl
noncomputable def dZ (b:Bool):AV:= .bool b
theorem zc (b:Bool):(dZ b).top=0:=rfl
def MD {K:Type} (keq:K→K→Bool) (k:K) (l:List (K × Bool)):Bool:=(nj keq k l).getD false
section
variable {K : Type} {ag : Bool} {sz : Nat} {lv : List (Nat × Nat)} {kenc : K → AV} {keq : K → K → Bool}
theorem E5 (hk:KeyOf K ag sz lv kenc keq) (m:List (K × Bool)) (k:K):eh (some (.bool false)) false (bz ag sz lv (kenc k) (bR kenc dZ m 0) 0)=some (.bool (MD keq k m)):=by
 rw [yF hk];unfold MD;cases nj keq k m with
 | none=>rfl
 | some v=>rfl
theorem Iu (hk:KeyOf K ag sz lv kenc keq) (m:List (K × Bool)) (k:K):qR (bR kenc dZ m 0) m.length (kenc k) (.bool true) (bz ag sz lv (kenc k) (bR kenc dZ m 0) 0)=some (bR kenc dZ (fV keq k true m) 0,(fV keq k true m).length):=AO (f:=dZ) hk k true m
end
def n8 (l:List PWord):Bool:=aj (ar 256 (.ofNat l.length)) && pB (l.map fun w=>w.text)
def md (pk:Int):List TUnit→List ((Int × aO) × Bool)→Bool
 | [],_=>true
 | k::r,m=>iO pk k.kind && (aj (MD mn (k.kind,k.label) m) && md pk r (fV mn (k.kind,k.label) true m))
def lw (u:TUnit):Bool:=(bif ae u.kind 0 then dH u.label [] && aj (ar 0 (.ofNat (u.head.length+u.words.length))) else aj (dH (cM u.kind) []) && (jH u.label && (n8 u.head && n8 u.words))) && (md u.kind u.kids [] && aj (ar 64 (.ofNat u.kids.length)))
def vK (q:TUnit→Bool) (u:TUnit):Bool:=(bc u).all q
theorem xw (q:TUnit→Bool) (u:TUnit):vK q u=(q u && (dx u.kids).all q):=by grind [vK,dW]
theorem MZ (q:TUnit→Bool):(dx []).all q=true:=by rw [fg];rfl
theorem zN (q:TUnit→Bool) (k:TUnit) (r:List TUnit):(dx (k::r)).all q=(vK q k && (dx r).all q):=by rw [bB,List.all_append];rfl
def BZ (l:List PId) (m:List (PId × Bool)):List (PId × Bool):=l.foldl (fun m p=>fV bw p true m) m
def bE:PId:=⟨0,0,0⟩
def O8 (u:TUnit):Bool:=(MD bw bE (BZ (dQ u) []) && ae (.ofNat (BZ (dQ u) []).length) 1) || (ae (.ofNat (BZ (dQ u) []).length) (.ofNat (dQ u).length) && (ae u.kind 0 == fL bE u))
def kU (u:TUnit):Bool:=vK lw u && (aj (ar 8 (.ofNat (mA u))) && (aj (ar 1024 (.ofNat (nU u))) && O8 u))
theorem bf {u k:TUnit} (h:k∈u.kids) {x:TUnit} (hx:x∈bc k):x∈bc u:=by
 rw [dW];refine fY _ ?_;generalize u.kids=l at h;induction l with
 | nil=>grind
 | cons y r ih=>grind [bB]
theorem c8 (u:TUnit):u∈bc u:=by grind [dW]
theorem Jn {u k:TUnit} (h:k∈u.kids):k∈bc u:=bf h (c8 k)
end Go.Ev
namespace Go.Ev
open Go
def b6 {α:Type} (q:α→α→Bool):List α→List α→Bool
 | [], []=>true
 | x::l,y::m=>q x y && b6 q l m
 | _,_=>false
theorem kM {α:Type} {q:α→α→Bool} : ∀ {l m:List α},l.length≠m.length→b6 q l m=false
 | [], [],h=>absurd rfl h
 | [],y::m,_=>rfl
 | x::l, [],_=>rfl
 | x::l,y::m,h=>by
  unfold b6;rw [kM (l:=l) (m:=m) (fun e=>h (by simp [e]))];exact xg _
theorem F4 {α:Type} {q:α→α→Bool} (hq : ∀ a b,q a b=true↔a=b) : ∀ {l m:List α},b6 q l m=true↔l=m
 | [], []=>by simp [b6]
 | [],y::m=>by simp [b6]
 | x::l, []=>by simp [b6]
 | x::l,y::m=>by simp [b6,hq,F4 hq (l:=l) (m:=m)]
section
variable {α : Type} [Inhabited α] {q : α → α → Bool} {l m x r : List α} {w : α} {j : Nat}
omit [Inhabited α] in
theorem zk:b6 q l m=b6 q l (m.drop (l.length - l.length)):=by simp_all
theorem xz {m:List α} {j:Nat} (h:j<m.length):m.drop j=gD m j::m.drop (j+1):=by grind [List.drop_eq_getElem_cons,gD]
theorem iQ (h1:l.drop j=x) (h2:x=w::r) (hl:l.length=m.length) (h3:b6 q l m=b6 q (w::r) (m.drop (l.length - (w::r).length))):b6 q l m=(q w (gD m j) && b6 q r (m.drop (l.length - r.length))):=by
 have e:=congrArg List.length (h1.trans h2);simp only [xd,cE] at e;rw [h3,(nO h1 h2).1,(nO h1 h2).2,xz (by omega),b6]
omit [Inhabited α] in
theorem mp (hl:l.length=m.length) (h3:b6 q l m=b6 q [] (m.drop (l.length - ([]:List α).length))):b6 q l m=true:=by rw [h3,gq,Nat.sub_zero,hl,List.drop_length];rfl
end
def AZ (a b:PWord):Bool:=dH a.text b.text && (ae a.act b.act && (ae a.item b.item && ae a.at_ b.at_))
theorem SG (a b:PWord):AZ a b=true↔a=b:=by
 obtain ⟨t,x,y,z⟩:=a;obtain ⟨t',x',y',z'⟩:=b;simp only [AZ,bK,PWord.mk.injEq];constructor
 ·grind [F5,je]
 ·grind [qW,bZ]
mutual
def AX:TUnit→TUnit→Bool
 | ⟨a,i,n,k,l,h,w,ks⟩,v=>bw ⟨a,i,n⟩ (bV v) && (ae k v.kind && (dH l v.label && (b6 AZ h v.head && (b6 AZ w v.words && LH ks v.kids))))
def LH:List TUnit→List TUnit→Bool
 | [], []=>true
 | k::r, []=>false
 | k::r,x::s=>AX k x && LH r s
 | [],x::s=>false
end
theorem H6 (u v:TUnit):AX u v=(bw (bV u) (bV v) && (ae u.kind v.kind && (dH u.label v.label && (b6 AZ u.head v.head && (b6 AZ u.words v.words && b6 AX u.kids v.kids))))):=by
 have key : ∀ (l m:List TUnit),LH l m=b6 AX l m:=by
  intro l;induction l with
  | nil=>intro m;cases m <;> (rw [LH];rfl)
  | cons x l ih=>intro m;cases m with | nil=>rw [LH];rfl | cons y m=>rw [LH,ih];rfl
 cases u
 rw [AX,key];rfl
theorem SH : ∀ (u v:TUnit),AX u v=true↔u=v:=TUnit.ind fun u ih=>by
 have key : ∀ (l:List TUnit),(∀ k,k∈l→k∈u.kids)→∀ m,b6 AX l m=true↔l=m:=by
  intro l;induction l with
  | nil=>grind [b6]
  | cons x l ihl=>
   intro hm m;cases m with
   | nil=>simp [b6]
   | cons y m=>grind [b6]
 intro v;rw [H6];simp only [bK,key u.kids (fun _ h=>h),F4 SG];obtain ⟨a,i,n,k,l,h,w,ks⟩:=u;obtain ⟨a',i',n',k',l',h',w',ks'⟩:=v;simp only [TUnit.mk.injEq,bV,TUnit.act,TUnit.item,TUnit.n,TUnit.kind,TUnit.label,TUnit.head,TUnit.words,TUnit.kids];constructor
 ·grind [tk,je,F5]
 ·rintro ⟨rfl,rfl,rfl,rfl,rfl,rfl,rfl,rfl⟩
  exact ⟨ka _,bZ _,qW _,rfl,rfl,rfl⟩
end Go.Ev
namespace Go.Ev
open Go
def Dr (u v:AV):Prop:=(Sc v→Sc u)∧Les u.cells v.cells
theorem Dr.refl (v:AV):Dr v v:=⟨id,Les.refl _⟩
theorem Dr.one {u v:AV} (hu:u.cells = [u]) (hv:v.cells = [v]) (hs:ct u=true) (h:Le u v):Dr u v:=⟨fun _ y hy=>by simp_all,by rw [hu,hv];exact .cons h .nil⟩
inductive LesC:List AV→List AV→Prop
 | nil:LesC [] []
 | cons {u v:AV} {us vs:List AV} (h:Dr u v) (k:LesC us vs):LesC (u::us) (v::vs)
theorem LesC.len {us vs:List AV} (h:LesC us vs):us.length=vs.length:=by
 induction h with
 | nil=>rfl
 | cons _ _ ih=>simp_all
theorem LesC.at_ {us vs:List AV} (h:LesC us vs) : ∀ (j:Nat) (u:AV),us[j]? = some u→∃ v,vs[j]? = some v∧Dr u v:=by
 induction h with
 | nil=>simp_all
 | cons h k ih=>grind
theorem Dt {xs ys:List AV} {t:Bool} (h:LesC xs ys):Le (.ps xs false) (.ps ys t):=fun pl M v hv=>by
 cases hv with
 | @ps _ _ a cap sz c hl ht hm hs hc=>
  rw [← h.len];refine .ps (sz:=sz) (c:=c) (by rw [h.len];omega) (fun h=>by grind) (fun hx=>?_) (fun x hx=>?_) fun i x j y hx hy=>?_
  ·have:ys≠ []:=fun e=>hx (rX (by rw [h.len,e];rfl))
   rw [h.len];simp_all
  ·obtain ⟨i,hi⟩:=AB hx;obtain ⟨y,h1,h2,h3⟩:=h.at_ i x hi;have:=hs y (bh h1);exact ⟨h3.len.trans this.1,h2 this.2⟩
  ·obtain ⟨z,h1,_,h3⟩:=h.at_ i x hx;obtain ⟨d,h4,h5⟩:=h3.at_ j y hy;exact h5 _ _ _ (hc i z j d h1 h4)
theorem Vi {xs ys:List AV} {t:Bool} (h:LesC xs ys) (h0:aY xs=0):Le (.ls xs) (.ps ys t):=fun pl M v hv=> .lsp (Dt h pl M v hv) h0
theorem QG {xs ys:List AV} (h:LesC xs ys) (h0:aY xs=0):Le (.ls xs) (.ls ys):=fun pl M v hv=>by
 cases hv with
 | lsn=>cases h;exact .lsn
 | lsp hv _=>exact .lsp (Dt h pl M v hv) h0
theorem Le.pls {x:AV} {xs ys:List AV} (h:LesC (x::xs) ys):Le (.ps (x::xs) false) (.ls ys):=fun pl M v hv=>by
 cases hv with
 | lsn=>cases h
 | lsp hv _=>exact Dt h pl M v hv
mutual
def AQ:AV→AV→Bool
 | .ls xs, .nils=>xs.isEmpty
 | .ls xs, .ps ys _=>j4 xs ys && Nat.beq (aY xs) 0
 | .ls xs, .ls ys=>j4 xs ys && Nat.beq (aY xs) 0
 | .ps (x::xs) false, .ls ys=>j4 (x::xs) ys
 | .ps xs false, .ps ys _=>j4 xs ys
 | .agg us, .agg vs=>j4 us vs && us.all ct
 | u,v=>AV.same u v
def j4:List AV→List AV→Bool
 | [], []=>true
 | a::us,b::vs=>AQ a b && j4 us vs
 | _,_=>false
end
theorem Dr.same {u v:AV} (h:AV.same u v=true):Le u v∧Dr u v:=by grind [AV.same_eq,Le.refl,Dr.refl]
mutual
theorem qP : ∀ (u v:AV),AQ u v=true→Le u v∧Dr u v:=fun u v h=>by
 unfold AQ at h;split at h
 ·rename_i xs;have e:xs = []:=by simp_all
  subst e;exact ⟨Le.nils,Dr.one rfl rfl rfl Le.nils⟩
 ·rename_i xs ys t;have h:=pv.1 h;have k:=Vi (t:=t) (jz xs ys h.1).2 (o5 h.2);exact ⟨k,Dr.one rfl rfl rfl k⟩
 ·rename_i xs ys;have h:=pv.1 h;have k:=QG (jz xs ys h.1).2 (o5 h.2);exact ⟨k,Dr.one rfl rfl rfl k⟩
 ·rename_i x xs ys;have k:=Le.pls (jz (x::xs) ys h).2;exact ⟨k,Dr.one rfl rfl rfl k⟩
 ·rename_i xs ys t;have k:=Dt (t:=t) (jz xs ys h).2;exact ⟨k,Dr.one rfl rfl rfl k⟩
 ·rename_i us vs;have h:=pv.1 h;have k:=jz us vs h.1;exact ⟨aL k.1 h.2,fun _ y hy=>na.1 h.2 y hy,k.1⟩
 ·exact Dr.same h
theorem jz : ∀ (us vs:List AV),j4 us vs=true→Les us vs∧LesC us vs:=fun us vs h=>by
 unfold j4 at h;split at h
 ·exact ⟨.nil, .nil⟩
 ·rename_i a us b vs;have h:=pv.1 h;have h1:=qP a b h.1;have h2:=jz us vs h.2;exact ⟨.cons h1.1 h2.1, .cons h1.2 h2.2⟩
 ·grind
end
section
variable {P : Program} {G : eY} {f : FuncId} {a b : List AV} {u v : AV}
theorem aM.args (h:aM P G f a v) (hl:Les a b):aM P G f b v:=fun hp pl M w vs hg hr hv=>h hp pl M w vs hg hr (hv.le hl)
theorem aM.lessB (h:aM P G f a v) (hl:AQ u v=true):aM P G f a u:=h.less (qP _ _ hl).1
theorem Ud (a b:Nat):Bh (.ofNat a) (.ofNat b) = .ofNat (Nat.max a b):=by
 unfold Bh;cases h:ar (.ofNat a) (.ofNat b) with
 | true=>
  have h:=au h;grind
 | false=>
  have h:=aF h;simp_all
theorem ml {xs ys:List AV} {i t:Nat} {r:List (Nat × Nat)} {x y:AV} {e c:Bool} (hx:jX xs i=some x) (hy:jX ys i=some y) (h:H7 t x y=some e) (k:wm xs ys r=some c):wm xs ys ((i,t)::r)=some (e && c):=by
 simp only [wm,hx,hy,QN,h];cases e with
 | true=>exact k
 | false=>rfl
theorem zj {xs ys:List AV} {i t:Nat} {r:List (Nat × Nat)} {x y:AV} {e:Bool} (hx:jX xs i=some x) (hy:jX ys i=some y) (h:H7 t x y=some e) (k:wm xs ys r=some true):wm xs ys ((i,t)::r)=some e:=by
 simp only [wm,hx,hy,QN,h];cases e with
 | true=>exact k
 | false=>rfl
theorem Dh {d:Option TypeDesc} {n:Nat} {l:List (Nat × Nat)} {xs ys:List AV} {c:Bool} {H:AHeap} (hn:(Nat.beq xs.length n && Nat.beq ys.length n)=true) (hl:wm xs ys l=some c) :
  bU H (Q1 (pU .eql d (some true) (some n) (some l)) (some (.agg xs)) (some (.agg ys)))=some (.val (.bool c) H):=by
 grind [Q1,pU,U9,ow,bU]
theorem xy {d:Option TypeDesc} {n:Nat} {l:List (Nat × Nat)} {xs ys:List AV} {c:Bool} {H:AHeap} (hn:(Nat.beq xs.length n && Nat.beq ys.length n)=true) (hl:wm xs ys l=some c) :
  bU H (Q1 (pU .neq d (some true) (some n) (some l)) (some (.agg xs)) (some (.agg ys)))=some (.val (.bool (!c)) H):=by
 grind [Q1,pU,U9,ow,bU]
def vO:List (FuncId × List AV × AV)→W8
 | [],_,_,_=>none
 | x::r,g,b,h=>match Nat.beq g x.1 with
  | true=>(match j4 x.2.1 b with | true=>some (x.2.2,h) | false=>vO r g b h)
  | false=>vO r g b h
theorem yT : ∀ {L:List (FuncId × List AV × AV)} {g:FuncId} {h h1:AHeap} {v1:AV},vO L g b h=some (v1,h1)→∃ x,x∈L∧g=x.1∧j4 x.2.1 b=true∧v1=x.2.2∧h1=h
 | [],_,_,_,_,e=>by grind [vO]
 | x::r,g,h,h1,v1,e=>by
  unfold vO at e;have next:vO r g b h=some (v1,h1)→∃ y,y∈x::r∧g=y.1∧j4 y.2.1 b=true∧v1=y.2.2∧h1=h:=fun e=>
   let ⟨y,k,q⟩:=yT e
   ⟨y,fY _ k,q⟩
  grind [Nat.eq_of_beq_eq_true]
theorem PQ {C:Cfg} {L:List (FuncId × List AV × AV)} (hC:C.hook=vO L) (hL : ∀ x,x∈L→aM C.P C.G x.1 x.2.1 x.2.2):Iy C:=fun g b hp v1 h1 e pl M w vs hg hr hv=>by
 rw [hC] at e;obtain ⟨x,hx,rfl,hl,rfl,rfl⟩:=yT e;rcases hL x hx h1 pl M w vs hg hr (hv.le (jz _ _ hl).1) with ⟨k1,k2⟩ | ⟨cv,w',v2,h2,k1,⟨rfl,rfl⟩,k3⟩
 ·refine .inl ⟨k1,fun cs=>?_⟩;obtain ⟨en,w',fr,⟨cv,v2,h2,e1,⟨rfl,rfl⟩,k3⟩,r⟩:=k2 cs;grind
 ·exact .inr ⟨cv,w',k1,k3⟩
def VH (v:AV):Option (AV × AHeap)→Bool
 | some (u,_)=>AQ v u && Nat.beq u.top 0
 | none=>false
theorem aM.closed {C:Cfg} {k:Nat} (hG:ib C.G) (ev:cK C.P C.G (iU C k)) (ht:aY a=0) (h:VH v (iU C k f a AHeap.none)=true):aM C.P C.G f a v:=by
 cases hx:iU C k f a AHeap.none with
 | none=>rw [hx] at h;cases h
 | some r=>
  obtain ⟨u,h1⟩:=r;rw [hx] at h;have h:=pv.1 h;exact (n5 hG ht (o5 h.2) ((aD.of ev hx).mono fun v1 _ e=>e.1)).lessB h.1
end
end Go.Ev
namespace Go.Ev
open Go
theorem aM.ls0 {P:Program} {G:eY} {f:FuncId} {r:List AV} {v:AV} (h1:aM P G f (.nils::r) v) (h2:aM P G f (.ps [] false::r) v):aM P G f (.ls []::r) v:=fun h=>DB (fun _ _ _ hv=>VRels.first hv fun _ hv=>hv.ls0) (h1 h) (h2 h)
theorem Ph {p:PId} {u:TUnit} (h:cZ p u=true):eu p u∈aA p u:=by
 unfold eu;rw [h];have:=pc.2 (ko h);grind [iY]
theorem Qr : ∀ (u:TUnit),mE u=(bc u).flatMap mN:=by
 refine TUnit.ind fun u ih=>?_
 rw [KX,dW,List.flatMap_cons];congr 1;have key : ∀ (l:List TUnit),(∀ k,k∈l→k∈u.kids)→kW l=(dx l).flatMap mN:=by
  intro l;induction l with
  | nil=>intro _;rw [Cz,fg];rfl
  | cons k r ihr=>grind [sU,bB]
 simp_all
theorem NJ {p:PId} : ∀ (u:TUnit),cZ p u=true→bV (eu p u)=p:=by
 refine TUnit.ind fun u ih h=>?_
 unfold eu;rw [h];simp only [cond_true];cases hh:fL p u with
 | true=>rw [sd hh];exact tk hh
 | false=>
  have key : ∀ (r:List TUnit),(∀ k,k∈r→k∈u.kids)→cY p r≠ []→bV (gD (cY p r) ((cY p r).length - 1))=p:=by
   intro r;induction r with
   | nil=>grind [kY]
   | cons k r ihr=>grind [ng,eu,ic]
  have k2:=key u.kids fun _ h=>h
  obtain ⟨y,t,e⟩:=uM h;rw [f9,hh] at e ⊢;grind [gD]
theorem JC {p:PId} : ∀ (u:TUnit),(∃ x,x∈bc u∧bV x=p)→cZ p u=true:=by
 refine TUnit.ind fun u ih ⟨x,hx,hp⟩=>?_
 cases hh:fL p u with
 | true=>grind [C5]
 | false=>
  rw [dW] at hx;rcases fz.1 hx with rfl | hx
  ·simp_all [fL,ka]
  ·have key : ∀ (l:List TUnit),(∀ k,k∈l→k∈u.kids)→x∈dx l→cY p l≠ []:=by
    intro l;induction l with
    | nil=>grind [fg]
    | cons k r ihr=>grind [bB,cZ,ng,ic]
   grind [cZ,f9]
theorem Bf {α β:Type} {f:α→β} : ∀ {l:List α},(l.map f).Nodup→∀ {x y:α},x∈l→y∈l→f x=f y→x=y
 | a::l,h,x,y,hx,hy,e=>by
  rw [ej,List.nodup_cons] at h;rcases fz.1 hx with h1 | h1
  ·grind
  ·rcases fz.1 hy with h2 | h2
   ·simp_all
   ·exact Bf h.2 h1 h2 e
theorem BO {K V:Type} {kenc:K→AV} {f:V→AV} : ∀ (l:List (K × V)) (i:Nat),(bR kenc f l i).length=l.length
 | [],_=>rfl
 | (k,v)::r,i=>by rw [bR,cE,BO r,cE]
theorem KF (m:List (PId × Bool)):BZ [] m=m:=rfl
theorem PB {n:Nat} (h:0<n):ae (Int.ofNat n) 0=false:=by grind [qu]
def BG (p:PId):TUnit→Option TUnit:=fun u=>(bc u).find? (fL p)
theorem QS {p:PId} : ∀ (u:TUnit),(cZ p u=true→BG p u=some (eu p u))∧(cZ p u=false→BG p u=none):=by
 refine TUnit.ind fun u ih=>?_
 unfold BG;rw [dW];cases hh:fL p u with
 | true=>
  rw [List.find?_cons_of_pos (by omega)];refine ⟨fun h=>?_,fun h=>by grind [C5]⟩;unfold eu;rw [h,sd hh];rfl
 | false=>
  rw [List.find?_cons_of_neg (by simp_all)];have key : ∀ (r:List TUnit),(∀ k,k∈r→k∈u.kids)→(cY p r≠ []→(dx r).find? (fL p)=some (gD (cY p r) ((cY p r).length - 1)))∧(cY p r = []→(dx r).find? (fL p)=none):=by
   intro r;induction r with
   | nil=>grind [kY,fg]
   | cons k r ihr=>
    intro hm;have ik:=ih k (hm k (fp ..));have ir:=ihr fun z hz=>hm z (fY _ hz)
    rw [bB,List.find?_append];cases hk:cZ p k with
    | true=>grind [BG,ng,ko,eu]
    | false=>grind [BG,ic]
  have k2:=key u.kids fun _ h=>h
  refine ⟨fun h=>?_,fun h=>?_⟩
  ·obtain ⟨y,t,e⟩:=uM h;unfold eu;rw [h,f9,hh];rw [f9,hh] at e;grind [gD]
  ·have e:=y8 h;grind [f9]
theorem gJ (p:PId) (u:TUnit):fL p u=true↔bV u=p:=⟨tk,fun h=>by simp_all [fL,ka]⟩
theorem Hy {y x:TUnit} : ∀ (u:TUnit),y∈bc u→x∈bc y→x∈bc u:=by
 refine TUnit.ind fun u ih h hx=>?_
 rw [dW] at h ⊢;rcases fz.1 h with rfl | h
 ·grind [dW]
 ·refine fY _ ?_;have key : ∀ (l:List TUnit),(∀ k,k∈l→k∈u.kids)→y∈dx l→x∈dx l:=by
   intro l;induction l with
   | nil=>grind [fg]
   | cons k r ihr=>grind [bB]
  simp_all
theorem ii {y x u:TUnit} (h:y∈bc u) (hx:x∈bc y):x∈bc u:=Hy u h hx
theorem NP {x:TUnit} : ∀ (u:TUnit),x∈bc u→nU x≤nU u:=by
 refine TUnit.ind fun u ih h=>?_
 rw [dW] at h;rcases fz.1 h with rfl | h
 ·omega
 ·have key : ∀ (l:List TUnit),(∀ k,k∈l→k∈u.kids)→x∈dx l→nU x<nU u:=by
   intro l;induction l with
   | nil=>grind [fg]
   | cons k r ihr=>grind [bB,Nat.lt_of_le_of_lt,gN]
  grind
theorem dA {x u:TUnit} (h:x∈bc u):nU x≤nU u:=NP u h
section
variable {p : PId} {u w : TUnit} {r : List TUnit}
end
end Go.Ev
namespace Go.Ev
open Go
def jN (a b:PStep):Bool:=ae a.kind b.kind && dH a.label b.label
mutual
def DX:PItem→PItem→Bool
 | ⟨k,a,t,w,n,u,o,ne,l,f,s,ac,im,d,e,bs⟩,v=>
  (ae k v.kind && (ae w v.where_ && (ae n v.nth_ && (ae ac v.act && (ae im v.item && ae d v.day)))))
  && ((dH l v.label && (dH f v.for_ && (dH e v.event && (ae s.kind v.start.kind && (ae s.day v.start.day && dH s.event v.start.event)))))
  && ((b6 jN a v.at_ && (b6 jN t v.to && (b6 dH o v.old && b6 dH ne v.new)))
  && (AX u v.unit && BL bs v.by_)))
def BL:List PItem→List PItem→Bool
 | [], []=>true
 | k::r, []=>false
 | k::r,x::s=>DX k x && BL r s
 | [],x::s=>false
end
theorem PA : ∀ (l m:List PItem),BL l m=b6 DX l m:=by
 intro l;induction l with
 | nil=>intro m;cases m <;> (rw [BL];rfl)
 | cons x l ih=>intro m;cases m with | nil=>rw [BL];rfl | cons y m=>rw [BL,ih];rfl
theorem SI (u v:PItem):DX u v=((ae u.kind v.kind && (ae u.where_ v.where_ && (ae u.nth_ v.nth_ && (ae u.act v.act && (ae u.item v.item && ae u.day v.day)))))
  && ((dH u.label v.label && (dH u.for_ v.for_ && (dH u.event v.event && (ae u.start.kind v.start.kind && (ae u.start.day v.start.day && dH u.start.event v.start.event)))))
  && ((b6 jN u.at_ v.at_ && (b6 jN u.to v.to && (b6 dH u.old v.old && b6 dH u.new v.new)))
  && (AX u.unit v.unit && b6 DX u.by_ v.by_)))):=by
 cases u
 rw [DX,PA];rfl
noncomputable def CG (s:aO):Bool:=aj (ar (.ofNat s.length) 1) && (aj (ar 16 (.ofNat s.length)) && (aj (ar (.ofNat (gD s 0).toNat) 97) && (aj (ar 122 (.ofNat (gD s 0).toNat)) && dH (Lib.trimS s [97,98,99,100,101,102,103,104,105,106,107,108,109,110,111,112,113,114,115,116,117,118,119,120,121,122,48,49,50,51,52,53,54,55,56,57,45]) [])))
def qF (n:Bool) (s:PStart):Bool:=bif ae s.kind 0 || ae s.kind 2 then ae s.day 0 && dH s.event [] else bif ae s.kind 1 then (aj (ar s.day 0) && aj (ar 1048576 s.day)) && dH s.event [] else bif ae s.kind 3 then ae s.day 0 && n else false
end Go.Ev
namespace Go.Ev
open Go
def bg (s:PStep) (u:TUnit):Bool:=ae u.kind s.kind && dH u.label s.label
def gX:List PStep→List TUnit→List TUnit
 | [],l=>l
 | s::r,l=>gX r (l.flatMap fun x=>x.kids.filter (bg s))
def dG (u:TUnit) (p:List PStep):List TUnit:=bif kJ p then (match p with
 | []=> [u]
 | s::r=>gX r (bif mG s then [u] else (bc u).filter (bg s))) else []
noncomputable def aB (u:TUnit) (p:List PStep):PId × Int:=match dG u p with
 | []=>(bE,7)
 | [x]=>(bV x,0)
 | _=>(bE,8)
def jQ (p:PId) (u:TUnit):Bool:=aj (ar (.ofNat (aA p u).length) 2)
noncomputable def G4 (p:PId) (u:TUnit):TUnit:=gD (aA p u) ((aA p u).length - 2)
noncomputable def sP (p:PId) (u:TUnit):PId:=bif jQ p u then bV (G4 p u) else bE
noncomputable def pF (p:PId) (u:TUnit):Int:=bif jQ p u then da (cZ p) (G4 p u).kids 0 else -1
def pq (p:PId) (u:TUnit):List PId:=(((aA p u).take ((aA p u).length - 1)).map bV).reverse
structure PSpot where
 id:PId
 at_:Int
 deriving Inhabited
noncomputable def eO (s:PSpot):AV:= .agg [.int .i64 s.id.a, .int .i64 s.id.i, .int .i64 s.id.n, .int .i64 s.at_]
def dl:PSpot:=⟨bE,0⟩
noncomputable def m7 (u:TUnit) (p:PId) (n:Int):PSpot × Int:=bif jQ p u then (⟨sP p u,pF p u+n⟩,0) else (dl,9)
noncomputable def dV (w:Int) (u:TUnit) (p:PId):PSpot × Int:=bif ae w 0 then (⟨p,0⟩,0) else bif ae w 1 then (⟨p, .ofNat (eu p u).kids.length⟩,0) else bif ae w 2 then m7 u p 1 else m7 u p 0
def iX (n:Int):Bool:=aj (ar n 0) && aj (ar 3 n)
def cb (act item:Int):List aO→Nat→List PWord
 | [],_=> []
 | s::r,n=>⟨s,act,item, .ofNat n⟩::cb act item r (n+1)
def bI (l:List PWord):List aO:=l.map fun w=>w.text
theorem fh (a i:Int) : ∀ (l:List aO) (n:Nat),(cb a i l n).length=l.length
 | [],_=>rfl
 | s::r,n=>by rw [cb,cE,fh a i r,cE]
mutual
def cF (a i:Int):TUnit→Nat→Nat→TUnit
 | ⟨_,_,_,k,l,h,ws,ks⟩,n,w=>⟨a,i, .ofNat (n+1),k,l,cb a i (bI h) w,cb a i (bI ws) (w+h.length),eL a i ks (n+1) (w+h.length+ws.length)⟩
def eL (a i:Int):List TUnit→Nat→Nat→List TUnit
 | [],_,_=> []
 | k::r,n,w=>cF a i k n w::eL a i r (n+nU k) (w+(mE k).length)
end
theorem A8 (a i:Int) (u:TUnit) (n w:Nat):cF a i u n w=⟨a,i, .ofNat (n+1),u.kind,u.label,cb a i (bI u.head) w,cb a i (bI u.words) (w+u.head.length),eL a i u.kids (n+1) (w+u.head.length+u.words.length)⟩:=by cases u;rw [cF];rfl
theorem EU (a i:Int) (n w:Nat):eL a i [] n w = []:=by rw [eL]
theorem Cc (a i:Int) (k:TUnit) (r:List TUnit) (n w:Nat):eL a i (k::r) n w=cF a i k n w::eL a i r (n+nU k) (w+(mE k).length):=by rw [eL]
def uA (part:List aO):Nat→List aO→Nat→List Nat
 | 0,_,_=> []
 | f+1,l,i=>bif Nat.ble (i+part.length) l.length then (bif b6 dH ((l.drop i).take part.length) part then i::uA part f l (i+part.length) else uA part f l (i+1)) else []
def s5 (l part:List aO):List Nat:=bif part.isEmpty then [] else uA part (l.length+1) l 0
end Go.Ev
namespace Go.Ev
open Go
def od (w:PWord):Bool:=aj (ae w.act 0 && (ae w.item 0 && ae w.at_ 0))
def CV (x:TUnit):Bool:=fL bE x && (aj (x.head.any od) && aj (x.words.any od))
def Gp (u:TUnit):Bool:=kU u && vK CV u
def gd (w:PWord):PWord:=⟨w.text,0,0,0⟩
mutual
def cp:TUnit→TUnit
 | ⟨_,_,_,k,l,h,w,ks⟩=>⟨0,0,0,k,l,h.map gd,w.map gd,si ks⟩
def si:List TUnit→List TUnit
 | []=> []
 | k::r=>cp k::si r
end
theorem xD : ∀ (l:List TUnit),si l=l.map cp
 | []=>by rw [si];rfl
 | k::r=>by rw [si,xD r];rfl
theorem lH (u:TUnit):cp u=⟨0,0,0,u.kind,u.label,u.head.map gd,u.words.map gd,u.kids.map cp⟩:=by cases u;rw [cp,xD];rfl
theorem PZ {p:PId} {u:TUnit} (h:cZ p u=false):jQ p u=false:=by unfold jQ;rw [y8 h];rfl
theorem Uz {p:PId} {u:TUnit} (h:jQ p u=false):sP p u=bE:=by unfold sP;simp_all
theorem N4 {p:PId} {u:TUnit} (h:jQ p u=false):pF p u = -1:=by unfold pF;simp_all
theorem Hc {p:PId} {u:TUnit} (h:jQ p u=true):sP p u=bV (G4 p u):=by unfold sP;simp_all
theorem Hd {p:PId} {u:TUnit} (h:jQ p u=true):pF p u=da (cZ p) (G4 p u).kids 0:=by unfold pF;simp_all
def nR (p:PId) (u:TUnit) (k:Nat):List PId:=((((aA p u).take ((aA p u).length - 1)).drop k).map bV).reverse
theorem Dg (p:PId) (u:TUnit):nR p u 0=pq p u:=rfl
theorem Cq (p:PId) (u:TUnit):nR p u ((aA p u).length - 1) = []:=by
 unfold nR;simp_all
theorem zM (p:PId) (u:TUnit) {k:Nat} (h:k+1<(aA p u).length):nR p u k=nR p u (k+1)++ [bV (gD (aA p u) k)]:=by
 unfold nR;have h1:k<((aA p u).take ((aA p u).length - 1)).length:=by grind
 rw [MI h1,ej,List.reverse_cons];grind [gD]
theorem CU (p:PId) (u:TUnit) (k:Nat):(nR p u k).length≤(aA p u).length:=by grind [nR]
def ku (s:PStep) (u:TUnit):List TUnit:=(bc u).filter (bg s)
def c9 (s:PStep) (l:List TUnit):List TUnit:=(dx l).filter (bg s)
theorem yx (s:PStep) (u:TUnit):ku s u=(bif bg s u then [u] else [])++c9 s u.kids:=by
 unfold ku c9;rw [dW,List.filter_cons];grind
theorem mw (s:PStep):c9 s [] = []:=by unfold c9;rw [fg];rfl
theorem gx (s:PStep) (k:TUnit) (r:List TUnit):c9 s (k::r)=ku s k++c9 s r:=by grind [ku,c9,bB]
theorem lP (s:PStep) (u:TUnit):(ku s u).length≤nU u:=by grind [ku,EB]
theorem rL : ∀ (l m:List TUnit),dM (l++m)=dM l+dM m
 | [],m=>by rw [lr,xe,fS]
 | x::r,m=>by rw [xi,ba,ba,rL r m,Nat.add_assoc]
theorem yl (q:TUnit→Bool) : ∀ (l:List TUnit),dM (l.filter q)≤dM l
 | []=>by simp_all
 | x::r=>by
  rw [List.filter_cons,ba];have:=yl q r;cases q x with
  | true=>rw [if_pos rfl,ba];omega
  | false=>grind
theorem yi (q:TUnit→Bool) : ∀ (l:List TUnit),dM (l.flatMap fun x=>x.kids.filter q)≤dM l
 | []=>by simp_all
 | x::r=>by
  rw [List.flatMap_cons,rL,ba];have:=yi q r;grind [yl,iI]
theorem Jk {n:Nat} : ∀ (l:List TUnit),(∀ x,x∈l→nU x≤n)→dM l≤n * l.length
 | [],_=>by simp_all [lr]
 | x::r,h=>by
  rw [ba,cE,Nat.mul_add,Nat.mul_one];have:=h x (fp ..);have:=Jk r fun y hy=>h y (fY _ hy)
  omega
theorem ER (s:PStep) (u:TUnit) (hp : ∀ x,x∈bc u→nU x≤nU u):dM (ku s u)≤nU u * nU u:=by
 have h1:=Jk (n:=nU u) (ku s u) fun x hx=>hp x (List.mem_filter.1 hx).1
 exact bG h1 (Nat.mul_le_mul_left _ (lP s u))
theorem G9 (l:List TUnit):gX [] l=l:=rfl
theorem HP {u:TUnit} {p:List PStep} (h:kJ p=false):dG u p = []:=by unfold dG;simp_all
theorem Ft {u:TUnit} (h:kJ []=true):dG u [] = [u]:=by unfold dG;simp_all
theorem Fu {u:TUnit} {s:PStep} {r:List PStep} (h:kJ (s::r)=true) (hb:mG s=true):dG u (s::r)=gX r [u]:=by
 unfold dG;simp_all
theorem vR {u:TUnit} {s:PStep} {r:List PStep} (h:kJ (s::r)=true) (hb:mG s=false):dG u (s::r)=gX r (ku s u):=by
 unfold dG;rw [h];show gX r (bif mG s then [u] else (bc u).filter (bg s))=_
 rw [hb];rfl
def cj (s:PStep) (l:List TUnit):List TUnit:=l.flatMap fun x=>x.kids.filter (bg s)
section
variable {s : PStep} {l m r r1 X : List TUnit} {w w1 : TUnit} {n N : Nat} {rs0 : List PStep} {R at0 : List TUnit}
theorem HB:cj s [] = []:=rfl
theorem vH:cj s (w::r)=w.kids.filter (bg s)++cj s r:=by grind [cj]
theorem HQ (rs:List PStep):gX (s::rs) l=gX rs (cj s l):=rfl
theorem ES:dM (cj s l)≤dM l:=yi _ l
theorem fA (h:R=gX (s::rs0) l∧dM l≤N) (e:cj s []=cj s l):R=gX rs0 []∧dM []≤N:=⟨by rw [h.1,HQ,← e];rfl,by simp_all [lr]⟩
theorem fB (h:R=gX (s::rs0) l∧dM l≤N) (e:m++cj s []=cj s l):R=gX rs0 m∧dM m≤N:=by grind [HB,HQ,ES]
theorem gA (h:cj s (w1::r1)=X):w1.kids.filter (bg s)++cj s r1=X:=vH.symm.trans h
theorem gB (h:n=m.length∧m++cj s (w1::r1)=X∧m.length+dM (w1::r1)<N):n=m.length∧m++(w1.kids.filter (bg s)++cj s r1)=X∧m.length+(dM w1.kids+dM r1)<N:=⟨h.1,vH (s:=s) ▸ h.2.1,by grind [ba,iI]⟩
theorem XF (h:(w::r).filter (bg s)++cj s r1=X) (q:bg s w=false):r.filter (bg s)++cj s r1=X:=by simp_all
theorem XE (h:n=m.length∧m++((w::r).filter (bg s)++cj s r1)=X∧m.length+(dM (w::r)+dM r1)<N) (q:bg s w=false):n=m.length∧m++(r.filter (bg s)++cj s r1)=X∧m.length+(dM r+dM r1)<N:=⟨h.1,by simp_all,by grind [ba]⟩
theorem XD (h:n=m.length∧m++((w::r).filter (bg s)++cj s r1)=X∧m.length+(dM (w::r)+dM r1)<N) (q:bg s w=true):n+1=(m++ [w]).length∧(m++ [w])++(r.filter (bg s)++cj s r1)=X∧(m++ [w]).length+(dM r+dM r1)<N:=⟨by simp_all,by simp_all,by grind [Hn,ba]⟩
end
section
variable {p : PId} {u : TUnit} {i : Int} {l : List PId}
theorem L8 (hn:i=Int.ofNat (aA p u).length - 2) (h0:ar i 0=false) : [bV (gD (aA p u) i.toNat)]=nR p u (i - 1+1).toNat:=by
 have h0:=aF h0;simp only [aH] at hn;have e:(i - 1+1).toNat=i.toNat:=by omega
 rw [e,zM p u (k:=i.toNat) (by omega),show i.toNat+1=(aA p u).length - 1 by omega,Cq,xe]
theorem GB (h:l=nR p u (i+1).toNat) (hi:i+2≤(aA p u).length) (h0:ar i 0=false):l++ [bV (gD (aA p u) i.toNat)]=nR p u (i - 1+1).toNat:=by
 have h0:=aF h0;grind [zM]
theorem Qm (h:l=nR p u (i+1).toNat) (hi : -1≤i) (h0:ar i 0=true):l=pq p u:=by
 have h0:=au h0;rw [h,show (i+1).toNat=0 by omega,Dg]
theorem Ql (hn:i=Int.ofNat (aA p u).length - 2) (h0:ar i 0=true):pq p u = []:=by
 have h0:=au h0;simp only [aH] at hn;rw [← Dg];have:(aA p u).length - 1=0:=by omega
 grind [Cq]
end
theorem JJ {s:PStep} {l m:List TUnit} (h:c9 s l=m) (hm:m≠ []):l≠ []:=by grind [mw]
theorem T2 (l:List TUnit) {z:AV} (hz:z.top=0):aY (l.map aK++ [z])=0:=fx.2 fun x hx=>by grind [gC]
theorem oY {l x r:List TUnit} {w:TUnit} {j:Nat} (h1:l.drop j=x) (h2:x=w::r):nU w+dM r≤dM l:=by
 have e:l=l.take j++(w::r):=by grind [List.take_append_drop]
 grind [rL,ba]
end Go.Ev
namespace Go.Ev
open Go
def pA (l:List aO) (n:Int):Bool:=pB l && aj (ar (.ofNat l.length) n)
def Ad (n:Int):Bool:=aj (ar n 0) && aj (ar 256 n)
theorem HO {u:TUnit} (p:List PStep) (h:nU u≤2 ^ 11):(dG u p).length≤2 ^ 22:=by
 have key : ∀ (rs:List PStep) (l:List TUnit),dM (gX rs l)≤dM l:=by
  intro rs;induction rs with
  | nil=>intro l;exact al _
  | cons s r ih=>grind [HQ,ES]
 unfold dG;cases kJ p with
 | false=>simp_all
 | true=>
  simp only [cond_true];cases p with
  | nil=>simp_all
  | cons s r=>
   simp only [];refine bG (xZ _) (bG (key r _) ?_);cases mG s with
   | true=>grind [ba,lr]
   | false=>
    simp only [cond_false];have h1:=ER s u fun x hx=>dA hx
    have h2:nU u * nU u≤2 ^ 11 * 2 ^ 11:=Nat.mul_le_mul h h;exact bG h1 h2
theorem FI {u:TUnit} {p:List PStep} (h:dG u p = []):aB u p=(bE,7):=by grind [aB]
theorem FH {u x:TUnit} {p:List PStep} (h:dG u p = [x]):aB u p=(bV x,0):=by grind [aB]
theorem FG {u x y:TUnit} {r:List TUnit} {p:List PStep} (h:dG u p=x::y::r):aB u p=(bE,8):=by grind [aB]
def wq (own:PId) (i:Int) (ok:Bool) (n:Int):PSpot × Int:=bif ok then (⟨own,i+n⟩,0) else (dl,9)
def BV (e:Int) (sp:PSpot) (e2:Int):PSpot × Int:=bif ae e 0 then (bif ae e2 0 then (sp,0) else (dl,e2)) else (dl,e)
def nq (p q own:PId) (at_:Int) (ok c bs:Bool) (sp:PSpot) (e:Int):PSpot × Int:=
 bif aj ok || ((aj (bw q p) && c) || (bw q p && aj bs)) then (dl,9)
 else bif bw q p then (⟨own,at_⟩,0)
 else bif ae e 0 && (bw sp.id own && ar at_ sp.at_) then (⟨sp.id,sp.at_ - 1⟩,e) else (sp,e)
end Go.Ev
