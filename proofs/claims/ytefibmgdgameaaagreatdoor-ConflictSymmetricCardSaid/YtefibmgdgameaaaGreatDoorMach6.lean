/- An abstract machine for runs of the program, proved sound against the model: part 6. No conditions. -/
import Derived.Test.YtefibmgdgameaaaGreatDoorMach5
import Derived.Shelf.SortM.Plain
import Derived.Shelf.SortM.SortNone
import Derived.Shelf.SlSortCmp.NoneTotal
import Derived.Shelf.SlicesG.CompactI
import Derived.Lib.QuietBelow
import GoSem.ClaimJoined
import Derived.Calls
import Derived.RunT
import Derived.Below
import Derived.Shelf.Strings.FuncGrows
import Derived.Laws.RangeAny
import Derived.Lib.Join
import Derived.Lib.Repeat
import Derived.Lib.SlTrimSet
import Derived.RangeFuncLeaves
import Derived.RangeFuncRecord
namespace Go.Ev
open Go Go.Sort Go.Proofs
section
variable {P : Program} {G : eg} {pl : Pl} {M : dz} {h : AHeap} {w w' : World}
theorem I6 (hr:ct pl M h w) {id:Nat} {p:Place} {sz:Nat} {op:Bool} {ep:Nat} {xs xs':List AV} {c c':Array Value} {t:TypeId} (hp:pl id=some p) (hg:h.get id=some (.row sz op ep xs))
  (hb:w.heap[p.blk]? = some (.cells c t (0,0))) (hw:w'.heap[p.blk]? = some (.cells c' t (0,0))) (hcs:c'.size=c.size) (hlen:xs'.length=xs.length) (hel : ∀ x,x∈xs'→x.cells.length=sz∧Sc x)
  (hcell : ∀ i x j y,xs'[i]? = some x→x.cells[j]? = some y→VRel pl M y (c'.getD (i * sz+j) undef)) (hs:WSame w w') (hsz:w.heap.size≤w'.heap.size) (hk : ∀ b,b<w.heap.size→b≠p.blk→w'.heap[b]? = w.heap[b]?) :
  ct pl M (h.put id (.row sz op ep xs')) w'∧cW h pl M w (h.put id (.row sz op ep xs')) pl M w':=by
 have ho:=hr.obj id p _ hp hg;rw [hb] at ho;simp only [bp] at ho;obtain ⟨h1,h2,h3,h4,h5,h6,h7,h8⟩:=ho;have e:=tw (pl:=pl) hp;have:=ct.change (p':=p) (o':= .row sz op ep xs') hr hp hg (.inl rfl) hs hsz hk (.inl rfl) (rf.1 hw).1 (by
  rw [e,hw];simp only [bp];refine ⟨h1,h2,by omega,by omega,trivial,h6,fun e=>by simp_all,⟨?_,hel,fun i x j y q1 q2=>?_⟩⟩
  ·grind [cases InMem]
  simp_all)
 simp_all
variable {β : Type} [Inhabited β]
theorem Fm {enc:β→Value} {blk off n:Nat} {d:Array β} {os:Array Obj} {c:Array Value} {t:TypeId} {fr:Nat × Nat} (hb:w.heap[blk]? = some (.cells c t fr)) :
  (grow (putRow enc (Sort.ahead w n) blk off d) os).heap[blk]? = some (.cells (putCells enc off d c) t fr):=by
 grind [grow,putRow,mapBlock,Sort.ahead,onCells]
theorem pU {enc:β→Value} {blk off n:Nat} {d:Array β} {os:Array Obj} {b:Nat} (hb:b<w.heap.size) (hne:b≠blk) :
  (grow (putRow enc (Sort.ahead w n) blk off d) os).heap[b]? = w.heap[b]?:=by
 simp only [grow,putRow,mapBlock,Sort.ahead];grind
theorem Ac {enc:β→Value} {blk off n:Nat} {d:Array β} {os:Array Obj} : WSame w (grow (putRow enc (Sort.ahead w n) blk off d) os):=⟨rfl,rfl,rfl,Nat.le_add_right _ _⟩
theorem Ab {enc:β→Value} {blk off n:Nat} {d:Array β} {os:Array Obj} : w.heap.size≤(grow (putRow enc (Sort.ahead w n) blk off d) os).heap.size:=by simp_all
theorem Aw {enc:β→Value} {d:Array β} {c:Array Value} {k:Nat} (hk:k<d.size) (hc:k<c.size):(putCells enc 0 d c).getD k undef=enc d[k]!:=by simp_all [putCells]
theorem Eb (hr:ct pl M h w) {id ep len sz:Nat} {op:Bool} {cap:Option Nat} {xs:List AV} {x:Value} (hv:VRel pl M (.slice id ep 0 len cap) x) (hg:h.get id=some (.row sz op ep xs)) (hl:0<len) :
  ∃ p c t cap',pl id=some p∧w.heap[p.blk]? = some (.cells c t (0,0))∧x = .slice (some ⟨p.blk,0,none⟩) len cap'∧InMem pl M c 0 sz xs∧0<sz∧p.blk<w.heap.size:=by
 cases hv with
 | slice hp he hle hk ha=>
  rename_i cap' a p;have ho:=hr.obj id p _ hp hg;cases hb:w.heap[p.blk]? with
  | none=>grind [bp]
  | some ob=>
   rw [hb] at ho;cases ob <;> simp only [bp] at ho
   rename_i c t fr;obtain ⟨h1,h2,h3,h4,h5,h6,h7,h8⟩:=ho;subst h5;obtain ⟨k1,_⟩:=ha (by omega);have k2:a=⟨p.blk,0,none⟩:=by grind
   exact ⟨p,c,t,_,hp,hb,by rw [k2],h8,h6,(rf.1 hb).1⟩
theorem td {f:FuncId} {g:Fn} (hE : ∀ vs w,(callFunc f vs).run P w = .ok (.enter f vs) w)
  (hC : ∀ (p:Option Addr) (cap:Nat) (fv:Value) (w:World),Calls P f #[.slice p 0 cap,fv] w fun e w'=>e = .returned (.tuple #[])∧w'=w):bw P G f [.nils, .func g [] []] (.tuple []):=by
 intro h pl M w vs hG hr hv;obtain ⟨a,b,rfl,hv1,hv2⟩:=zC hv;cases hv1
 exact .inl ⟨hE _ _,Calls.mono (hC none 0 b w) fun e w' ⟨he,hw⟩=>⟨.tuple #[], .tuple [],h,he,⟨rfl,rfl⟩,pl,M,BZ,by simp_all [StepF.refl]⟩⟩
def PX {α:Type} (cmp:α→α→Int) (a b:α):Bool:=decide (cmp a b<0)
theorem Aq {f g:FuncId} {sz:Nat} (hGT:gH G) (hE : ∀ vs w,(callFunc f vs).run P w = .ok (.enter f vs) w) (hg2 : ∀ args w,(callFunc g args).run P w = .ok (.enter g args) w)
  (hC : ∀ (m:Nat) (enc:Fin (m+1)→List Value) (cf:Fin (m+1)→Fin (m+1)→Int) (blk off cap:Nat) (d:Array (Fin (m+1))) (w:World),(∀ x,(enc x).length=sz)→(∀ x,∀ v∈enc x,v.oneCell'=true)→SWO (ltOf cf)→
   CmpLays P g #[] enc sz cf blk off d.size w→HoldsK enc sz w blk off d→blk<w.heap.size→d.size<4611686018427387904→
   Calls P f #[.slice (some ⟨blk,off,none⟩) d.size cap, .func (.func g) #[] #[]] w fun e w'=>e = .returned (.tuple #[])∧∃ d' n os,PermIn 0 d.size d d'∧SortedIn (ltOf cf) 0 d.size d'∧w'=sortWorldK enc sz w blk off n d' os)
  {α:Type} [Inhabited α] (enc:α→AV) (cmp:α→α→Int) (hO:SWO (PX cmp)) (hag : ∀ a,∃ cs,enc a = .agg cs) (htop : ∀ a,(enc a).top=0)
  (l:List α) (hcmp : ∀ a,a∈l→∀ b,b∈l→bw P G g [enc a,enc b] (.int .i64 (cmp a b)))
  {oid ep:Nat} {op:Bool} {cap:Option Nat} (hg:h.get oid=some (.row sz op ep (l.map enc))) (hz:0<l.length) (hb:l.length<4611686018427387904) :
  aB P G f [.slice oid ep 0 l.length cap, .func (.func g) [] []] h (fun v h'=>∃ l':List α,(l'.Perm l∧l'.Pairwise fun a b=>PX cmp b a=false)∧v = .tuple []∧h'=h.put oid (.row sz op ep (l'.map enc))):=by
 intro pl M w vs hG hr hv;obtain ⟨a,fv,rfl,hv1,hv2⟩:=zC hv;have e2:=xE hv2;subst e2;obtain ⟨p,c,t,cap',hp,hbl,rfl,hm,hsz0,hlt⟩:=Eb hr hv1 hg hz;obtain ⟨m,hm1⟩ : ∃ m,l.length=m+1:=⟨l.length - 1,by omega⟩
 have hfit:=hm.fit;rw [eZ,gK,hm1] at hfit;have helem : ∀ i:Fin (m+1),(l.map enc)[i.1]? = some (enc l[i.1]!):=fun i=>by
  have:=i.2;rw [ri,kS (by omega),getElem!_pos l i.1 (by omega)];rfl
 have hmul : ∀ i:Fin (m+1),i.1 * sz+sz≤(m+1) * sz:=fun i=>by have:=fz sz (Nat.succ_le_of_lt i.2);rwa [qv] at this
 generalize hcof:(fun i:Fin (m+1)=>(List.range sz).map fun j=>c.getD (i.1 * sz+j) undef)=cellsOf;have cl : ∀ i,(cellsOf i).length=sz:=fun i=>by rw [← hcof];simp
 have cg : ∀ i j,j<sz→(cellsOf i)[j]? = some (c.getD (i.1 * sz+j) undef):=fun i j hj=>by rw [← hcof];simp [hj]
 generalize hd:(Array.ofFn (n:=m+1) id)=d;have hds:d.size=m+1:=by rw [← hd];simp
 have hdg : ∀ j (hj:j<m+1),d[j]! = ⟨j,hj⟩:=fun j hj=>by rw [getElem!_pos d j (by omega)];subst hd;simp
 have hflat : ∀ (dk:Array (Fin (m+1))),dk.size=m+1→∀ i j,i<m+1→j<sz→(flatK cellsOf sz dk)[i * sz+j]! = c.getD ((dk[i]!).1 * sz+j) undef:=fun dk hdk i j hi hj=>by
  have h1:i * sz+j<dk.size * sz:=by have:=fz sz (Nat.succ_le_of_lt hi);rw [qv] at this;rw [hdk];omega
  rw [get_flatK cellsOf sz dk _ h1];have h2:(i * sz+j) / sz=i:=by rw [Nat.mul_comm,Nat.mul_add_div hsz0,Nat.div_eq_of_lt hj,uB]
  have h3:(i * sz+j) % sz=j:=by rw [Nat.mul_comm,Nat.mul_add_mod,Nat.mod_eq_of_lt hj]
  rw [h2,h3,getElem!_pos _ j (by rw [cl];exact hj)];have:=cg (dk[i]!) j hj;rw [kS (by rw [cl];exact hj)] at this;simpa using this
 have hH:HoldsK cellsOf sz w p.blk 0 d:=by
  intro k hk;rw [size_flatK,hds] at hk;have hi:k / sz<m+1:=Nat.div_lt_of_lt_mul (by rw [Nat.mul_comm];exact hk);have hj:k % sz<sz:=Nat.mod_lt _ hsz0;have hk2:k / sz * sz+k % sz=k:=by rw [Nat.mul_comm];exact Nat.div_add_mod k sz
  have:=hflat d hds (k / sz) (k % sz) hi hj;rw [hdg _ hi,hk2] at this;rw [this,gK];have hkc:k<c.size:=by omega
  refine ⟨?_,by simp [World.frozen?,hbl]⟩;simp only [World.cell?,hbl];simp only [Option.isSome_none,gg,if_false];rw [Array.getElem?_eq_getElem hkc];simp [Array.getD,hkc]
 have hrelE : ∀ (i:Fin (m+1)) cs,enc l[i.1]! = .agg cs→cs.length=sz∧(∀ y,y∈cs→cM y=true)∧∀ (j:Nat) (y:AV),cs[j]? = some y→VRel pl M y (c.getD (i.1 * sz+j) undef):=by
  intro i cs hcs;have h1:=hm.elem _ (bD (helem i));rw [hcs] at h1;refine ⟨h1.1,h1.2,fun j y hj=>?_⟩;have:=hm.cell i.1 _ j y (helem i) (by rw [hcs];exact hj);rwa [gK] at this
 have hone : ∀ i,∀ v∈cellsOf i,v.oneCell'=true:=by
  intro i v hvm;obtain ⟨j,hj,e⟩:=JK hvm;rw [cl] at hj;have h1:=cg i j hj;rw [kS (by rw [cl];exact hj),e] at h1;obtain ⟨cs,hcs⟩:=hag l[i.1]!;obtain ⟨k1,k2,k3⟩:=hrelE i cs hcs;have:=k3 j cs[j] (kS (by omega));cases h1
  exact this.one (k2 _ (Cx _))
 have hmemL : ∀ i:Fin (m+1),l[i.1]!∈l:=fun i=>by
  have:=i.2;rw [getElem!_pos l i.1 (by omega)];exact Cx _
 have hlays:CmpLays P g #[] cellsOf sz (fun i j=>cmp l[i.1]! l[j.1]!) p.blk 0 d.size w:=by
  intro n os dk hdk x y;generalize hW:sortWorldK cellsOf sz w p.blk 0 n dk os=W;have hWo : ∀ b,b<w.heap.size→b≠p.blk→W.heap[b]? = w.heap[b]?:=fun b h1 h2=>by rw [← hW];exact pU h1 h2
  have hrW:ct (fun _=>none) M AHeap.none W:=o7 (pl:=fun _=>none) (n:=0) (g:=AHeap.none.get) ⟨fun _ _ h=>by simp at h,fun _ _ _ h=>by simp at h,fun _ _ h=>by simp at h,fun _ _ _ _ h=>by simp at h,fun b c' hM=>by
   obtain ⟨t',fr,q⟩:=hr.imm b c' hM;refine ⟨t',fr,?_⟩;rw [hWo b (hr.memLt hM) (fun e=>by have:=hr.sep oid p hp;rw [← e,hM] at this;cases this)];exact q,fun _ _ h=>by simp at h⟩
  have hrel : ∀ i:Fin (m+1),VRel (fun _=>none) M (enc l[i.1]!) (.agg (cellsOf i).toArray):=by
   intro i;obtain ⟨cs,hcs⟩:=hag l[i.1]!;obtain ⟨k1,k2,k3⟩:=hrelE i cs hcs;have ht:=htop l[i.1]!;rw [hcs] at ht ⊢;refine .agg (by simp [cl,k1]) k2 fun j y hj=>?_
   have hj':j<sz:=by rw [← k1];exact (iU.1 hj).1
   have e:(cellsOf i).toArray.getD j undef=c.getD (i.1 * sz+j) undef:=by
    have:=cg i j hj';rw [gV,mD,this];rfl
   rw [e];exact (k3 j y hj).none (ju.1 ht y (bD hj))
  have hc:=hcmp _ (hmemL x) _ (hmemL y) AHeap.none (fun _=>none) M W #[.agg (cellsOf x).toArray, .agg (cellsOf y).toArray] (hG.none hGT) hrW ⟨rfl,fun j z hj=>by
   match j,hj with
   | 0,hj=>cases hj;exact hrel x
   | 1,hj=>cases hj;exact hrel y⟩
  rcases hc with ⟨h1,h2⟩ | ⟨cv,w',v,h',h1,h2,h3⟩
  ·refine Calls.mono h2 fun e w' ⟨cv,v,h',k1,k2,pl',M',k3,k4,k5,k6⟩=>?_
   obtain ⟨k2,_⟩:=k2;subst k2;cases k3
   refine ⟨k1,?_⟩;obtain ⟨q,hq⟩:=regrown_of_below (w:=W) (w':=w') ⟨k5.os,k5.tape,k5.out,k5.size,fun b hb=>k5.kept b hb fun id p h=>by simp at h⟩;refine ⟨w'.drawn - W.drawn,q.os,?_⟩;have hd1:w'.drawn=q.d:=by rw [hq];rfl
   have hd2:=k5.drawn;have:redrawn W q.d=W.drewN (w'.drawn - W.drawn):=by
    show ({ W with drawn:=q.d } : World) = { W with drawn:=W.drawn+(w'.drawn - W.drawn) }
    congr 1;omega
   rw [← this];exact hq
  ·rw [hg2] at h1;cases h1
 refine .inl ⟨hE _ _,?_⟩;have hcall:=hC m cellsOf (fun i j=>cmp l[i.1]! l[j.1]!) p.blk 0 cap' d w cl hone ⟨fun x=>hO.irrefl _,fun x y z=>hO.trans _ _ _,fun x y z=>hO.ntrans _ _ _⟩ hlays hH hlt (by omega);rw [show d.size=l.length by omega] at hcall;refine Calls.mono hcall fun e w' ⟨he,d',n,os,hP,hS,hw⟩=>?_
 obtain ⟨hp1,_,hp3⟩:=hP;have hd's:d'.size=m+1:=by omega
 have hperm:d'.toList.Perm d.toList:=by
  have e1:d'.extract 0 l.length=d':=by rw [show l.length=d'.size by omega];exact Array.extract_size
  have e2:d.extract 0 l.length=d:=by rw [show l.length=d.size by omega];exact Array.extract_size
  rwa [e1,e2] at hp3
 have hdl:d.toList.map (fun i=>l[i.1]!)=l:=by
  apply List.ext_getElem?;intro i;by_cases hi:i<l.length
  ·rw [ri,Array.getElem?_toList,Array.getElem?_eq_getElem (by omega),kS hi];have:=hdg i (by omega);rw [getElem!_pos d i (by omega)] at this;rw [this];show some (l[i]!)=some l[i]
   rw [getElem!_pos l i hi]
  ·rw [List.getElem?_eq_none (by simp;omega),List.getElem?_eq_none (by omega)]
 have hl':(d'.toList.map (fun i=>l[i.1]!)).length=l.length:=by simp;omega
 refine ⟨.tuple #[], .tuple [],_,he,⟨d'.toList.map (fun i=>l[i.1]!),⟨?_,?_⟩,rfl,rfl⟩,pl,M,BZ,?_⟩
 ·have:=hperm.map (fun i=>l[i.1]!);rwa [hdl] at this
 ·rw [List.pairwise_iff_getElem];intro i j hi hj hij;have hi':i<d'.size:=by simpa using hi
  have hj':j<d'.size:=by simpa using hj
  have:=hS i j (bN _) hij (by omega);rw [getElem!_pos d' i hi',getElem!_pos d' j hj'] at this;simpa [PX,ltOf] using this
 ·have hw1:w'.heap[p.blk]? = some (.cells (putCells id 0 (flatK cellsOf sz d') c) t (0,0)):=by rw [hw];exact Fm hbl
  obtain ⟨r1,r2⟩:=I6 (w':=w') (xs':=(d'.toList.map (fun i=>l[i.1]!)).map enc) hr hp hg hbl hw1 (by simp [putCells]) (by simp;omega) (fun x hx=>by
    obtain ⟨z,h1,rfl⟩:=ky.1 hx;obtain ⟨i,_,rfl⟩:=ky.1 h1;exact hm.elem _ (bD (helem i))) (fun i x j y q1 q2=>by
    rw [ri,ri,Array.getElem?_toList] at q1;obtain ⟨z,e1,rfl⟩:=Option.map_eq_some_iff.1 q1;obtain ⟨k,e2,rfl⟩:=Option.map_eq_some_iff.1 e1;have hi:i<d'.size:=(rf.1 e2).1;obtain ⟨cs,hcs⟩:=hag l[k.1]!;obtain ⟨k1,k2,k3⟩:=hrelE k cs hcs;rw [hcs] at q2;have hj:j<sz:=by rw [← k1];exact (iU.1 q2).1
    have hb1:i * sz+j<(m+1) * sz:=by have:=fz sz (Nat.succ_le_of_lt (show i<m+1 by omega));rw [qv] at this;omega
    rw [Aw (by rw [size_flatK,hd's];exact hb1) (by omega)];have:=hflat d' hd's i j (by omega) hj;have e3:d'[i]! = k:=by rw [getElem!_pos d' i hi];rw [Array.getElem?_eq_getElem hi] at e2;simpa using e2
    rw [e3] at this;show VRel pl M y (flatK cellsOf sz d')[i * sz+j]!
    rw [this];exact k3 j y q2) (by rw [hw];exact Ac) (by rw [hw];exact Ab) (fun b hb hne=>by rw [hw];exact pU hb hne)
  exact ⟨r1,r2,ar _⟩
end
end Go.Ev
namespace Go.Ev
open Go
section
variable {H : Type} {enc : TypeId × Value → H} {P : Program} {w : World} {base : Nat} {spare : Nat → Bool} {held : Bool}
inductive VL (M:dz):List AV→List Value→Prop
 | nil:VL M [] []
 | cons {x:AV} {v:Value} {xs:List AV} {vs:List Value} (h:VRel (fun _=>none) M x v) (t:VL M xs vs):VL M (x::xs) (v::vs)
theorem VL.append {M:dz} {xs ys:List AV} {a b:List Value} (h:VL M xs a) (k:VL M ys b):VL M (xs++ys) (a++b):=by
 induction h with
 | nil=>grind
 | cons h _ ih=>exact .cons h ih
theorem VL.len {M:dz} {xs:List AV} {a:List Value} (h:VL M xs a):xs.length=a.length:=by
 induction h with
 | nil=>rfl
 | cons _ _ ih=>simp_all
theorem VL.at_ {M:dz} {xs:List AV} {a:List Value} (h:VL M xs a) : ∀ (j:Nat) (y:AV),xs[j]? = some y→∃ v,a[j]? = some v∧VRel (fun _=>none) M y v:=by
 induction h with
 | nil=>simp_all
 | cons h _ ih=>grind
theorem VL.one {M:dz} {x:AV} {cs:List Value} (h:VL M [x] cs) : ∃ v,cs = [v]∧VRel (fun _=>none) M x v:=by
 cases h with
 | cons h t=>cases t;simp_all
def Wt (P:Program) (t:TypeId) (d:DataW H):Prop:=∀ m,m∈d.weights P t→m≤reachBytes
theorem oO {e:TypeId} {d:DataW H} {m:Nat} (hm:m∈d.weights P e) : ∀ {l:List (DataW H)},d∈l→m∈DataW.weightsAll P e l
 | [],h=>by grind
 | a::r,h=>by
  unfold DataW.weightsAll;rcases gx.1 h with rfl | h
  ·simp_all
  ·exact List.mem_append_right _ (oO hm h)
theorem jU {t:TypeId} {d:DataW H} {m:Nat} (hm:m∈d.weights P t) : ∀ {ts:List TypeId} {l:List (DataW H)} (i:Nat),ts[i]? = some t→l[i]? = some d→m∈DataW.weightsEach P ts l
 | [],_,i,h,_=>by simp_all
 | _::_, [],i,_,h=>by simp_all
 | u::ts,a::r,i,h1,h2=>by
  unfold DataW.weightsEach;cases i with
  | zero=>simp_all
  | succ i=>exact List.mem_append_right _ (jU hm i (by simp_all) (by simp_all))
def Dx (P:Program):List Field→Nat→Nat→Bool
 | [],off,n=>Nat.beq off n
 | f::r,off,n=>Nat.beq f.offset off && Dx P r (off+P.cellsOf f.type) n
def VF (M:dz) (P:Program) (cs:List Value):List Field→List (List AV)→Prop
 | [], []=>True
 | f::fs,xs::xss=>VL M xs ((cs.drop f.offset).take (P.cellsOf f.type))∧VF M P cs fs xss
 | _,_=>False
theorem VF.vl {M:dz} {cs:List Value} : ∀ {fs:List Field} {xss:List (List AV)} {off:Nat},Dx P fs off cs.length=true→VF M P cs fs xss→VL M xss.flatten (cs.drop off)
 | [], [],off,h,_=>by
  have:=j1 h;rw [this,List.drop_length];exact .nil
 | [],_::_,_,_,h=>h.elim
 | _::_, [],_,_,h=>h.elim
 | f::fs,xs::xss,off,h,k=>by
  unfold Dx at h;rw [ba] at h;have ho:=j1 h.1;have h1:=k.1;rw [ho] at h1;have h2:=VF.vl h.2 k.2;have e:cs.drop off=(cs.drop off).take (P.cellsOf f.type)++cs.drop (off+P.cellsOf f.type):=by grind [List.drop_drop,List.take_append_drop]
  rw [List.flatten_cons,e];exact h1.append h2
def TF (enc:TypeId × Value→H) (P:Program) (w:World) (base:Nat) (spare:Nat→Bool) (held:Bool) (n:Nat) (cs:List Value):List Field→Prop
 | []=>True
 | f::fs=>(∃ d p,DataW.trod enc P w base spare held n f.type ((cs.drop f.offset).take (P.cellsOf f.type))=some (d,p)∧Wt P f.type d)∧TF enc P w base spare held n cs fs
theorem Uu {n:Nat} {cs:List Value} : ∀ (fs:List Field),(∀ (i:Nat) (f:Field),fs[i]? = some f→∃ d p,DataW.trod enc P w base spare held n f.type ((cs.drop f.offset).take (P.cellsOf f.type))=some (d,p)∧Wt P f.type d)→TF enc P w base spare held n cs fs
 | [],_=>trivial
 | f::fs,h=>⟨h 0 f rfl,Uu fs fun i g hg=>h (i+1) g (by simp_all)⟩
theorem jc {t:TypeId} {fs:Array Field} {fuel:Nat} {cs:List Value} {d:DataW H} {p:List MemPlace} (hu:P.underlying t=some (.struct fs)) (hc:Dx P fs.toList 0 (P.cellsOf t)=true)
  (h:DataW.trod enc P w base spare held fuel t cs=some (d,p)) (hw:Wt P t d) :
  ∃ n,fuel=n+1∧TF enc P w base spare held n cs fs.toList∧∀ xss,VF (cp w) P cs fs.toList xss→VL (cp w) xss.flatten cs:=by
 obtain ⟨xs,n,rfl,h1,h2,h3,h4⟩:=DataW.trod_struct hu h;simp only [qj] at h1;obtain ⟨rfl,_⟩:=h1;refine ⟨n,rfl,Uu _ fun i f hf=>?_,fun xss hx=>?_⟩
 ·have hf':fs[i]? = some f:=by simp_all
  have hi:i<xs.length:=by grind
  have e:=h4 i f hf';rw [kS hi] at e;refine ⟨xs[i].1,xs[i].2,e,fun m hm=>hw m ?_⟩;unfold DataW.weights;rw [hu];exact jU hm i (by simp_all) (by grind)
 ·have:=VF.vl (off:=0) (by simp_all) hx;simp_all
theorem iW {t:TypeId} {fuel:Nat} {cs:List Value} {d:DataW H} {p:List MemPlace} (hu:P.underlying t=some (.int .i64)) (h:DataW.trod enc P w base spare held fuel t cs=some (d,p)) : ∃ x,VL (cp w) [.int .i64 x] cs:=by
 obtain ⟨x,rfl,_⟩:=DataW.trod_int hu h;exact ⟨x, .cons (.int _ _) .nil⟩
theorem ns {t:TypeId} {fuel:Nat} {cs:List Value} {d:DataW H} {p:List MemPlace} (hu:P.underlying t=some .string) (h:DataW.trod enc P w base spare held fuel t cs=some (d,p)) : ∃ s,VL (cp w) [.str s] cs:=by
 obtain ⟨⟨⟨s⟩⟩,rfl,_⟩:=DataW.trod_string hu h;exact ⟨s, .cons (.str _) .nil⟩
theorem J9 {α:Type} {Q:Nat→α→Prop} : ∀ (n:Nat),(∀ i,i<n→∃ x,Q i x)→∃ l:List α,l.length=n∧∀ i x,l[i]? = some x→Q i x
 | 0,_=>⟨[],rfl,fun i x h=>by simp_all⟩
 | n+1,h=>by
  obtain ⟨l,h1,h2⟩:=J9 n fun i hi=>h i (by omega)
  obtain ⟨y,hy⟩:=h n (by omega);refine ⟨l++ [y],by simp_all,fun i x hx=>?_⟩;grind
theorem XS {x:AV} (h:x.cells.all cM=true):Sc x:=fun y hy=>jp.1 h y hy
theorem He {α:Type} (el:α→AV) (fit:α→Prop) {t e:TypeId} {fuel:Nat} {cs:List Value} {d:DataW H} {p:List MemPlace} (hu:P.underlying t=some (.slice e)) (hsz:Nat.blt 0 (P.cellsOf e)=true) (hby:Nat.blt 0 (P.bytesOf e)=true)
  (hel : ∀ x,(el x).cells.length=P.cellsOf e) (hsc : ∀ x,(el x).cells.all cM=true) (htop : ∀ x,(el x).top=0)
  (hrec : ∀ m,m<fuel→∀ cs d p,DataW.trod enc P w base spare held m e cs=some (d,p)→Wt P e d→∃ x,fit x∧VL (cp w) (el x).cells cs)
  (h:DataW.trod enc P w base spare held fuel t cs=some (d,p)) (hw:Wt P t d) :
  ∃ l:List α,l.length<2 ^ 47∧(∀ x,x∈l→fit x)∧VL (cp w) [.ls (l.map el)] cs:=by
 rw [dc] at hsz hby;simp only [decide_eq_true_eq] at hsz hby;rcases DataW.trod_slice hu h with ⟨rfl,_⟩ | ⟨a,len,cap,elems,rest,n,rfl,rfl,h1,h2,h3,h4,h5,h6,_,_⟩
 ·exact ⟨[],Nat.two_pow_pos 47,fun x h=>absurd h (List.not_mem_nil), .cons .lsn .nil⟩
 ·simp only [qj] at h1;obtain ⟨rfl,_⟩:=h1;have hwl:len<2 ^ 47:=by
   have:=hw ((elems.length+rest.length) * P.bytesOf e) (by grind [DataW.weights]);have h7:elems.length≤(elems.length+rest.length) * P.bytesOf e:=bL (Nat.le_add_right _ _) (Nat.le_mul_of_pos_right _ hby);have:elems.length≤reachBytes:=bL h7 this;rw [h5] at this;exact wN this (by decide)
  have el0 : ∀ i,i<len→∃ x,fit x∧∃ cs:List Value,cs.length=P.cellsOf e∧(∀ j,j<P.cellsOf e→w.cell? ((a.add (i * P.cellsOf e)).add j)=cs[j]?)∧VL (cp w) (el x).cells cs:=by
   intro i hi;have k5:=h6 i hi;have hi':i<elems.length:=by omega
   rw [kS hi'] at k5;simp only [Option.bind_eq_some_iff] at k5;obtain ⟨cs,c1,c2⟩:=k5;obtain ⟨z1,z2⟩:=B7 c1;obtain ⟨x,f1,f2⟩:=hrec n (by omega) cs elems[i].1 elems[i].2 c2 (fun m hm=>hw m (by
    unfold DataW.weights;rw [hu];exact kw _ (List.mem_append_left _ (oO hm (ky.2 ⟨elems[i],Cx hi',rfl⟩)))))
   grind
  obtain ⟨l,q1,q2⟩:=J9 len el0;refine ⟨l,by omega,fun x hx=>?_, .cons ?_ .nil⟩
  ·obtain ⟨i,hi⟩:=DI.1 hx;grind
  ·have q1':(l.map el).length=len:=by simp_all
   generalize hys:l.map el=ys at *;have q3 : ∀ i y,ys[i]? = some y→∃ cs:List Value,cs.length=P.cellsOf e∧(∀ j,j<P.cellsOf e→w.cell? ((a.add (i * P.cellsOf e)).add j)=cs[j]?)∧VL (cp w) y.cells cs:=by grind
   have q4 : ∀ y,y∈ys→y.cells.length=P.cellsOf e∧Sc y:=by grind [XS]
   have q5:aY ys=0:=by grind [aK]
   have addadd : ∀ i j:Nat,a.spot=none→(a.add i).add j=⟨a.block,a.off+i+j,none⟩:=by
    intro i j hs;obtain ⟨blk,off,spot⟩:=a;grind [Addr.add]
   have spot:ys≠ []→a.spot=none:=by
    intro hne;obtain ⟨x,hx⟩ : ∃ x,ys[0]? = some x:=by
     cases ys with
     | nil=>simp_all
     | cons x r=>exact ⟨x,rfl⟩
    grind [pS,Addr.add]
   have cell : ∀ (i j:Nat) (x:AV),ys[i]? = some x→j<P.cellsOf e→∃ c v,cp w a.block=some c∧c[a.off+i * P.cellsOf e+j]? = some v∧∀ y,x.cells[j]? = some y→VRel (fun _=>none) (cp w) y v:=by
    intro i j x hx hj;obtain ⟨cs,c1,c2,c3⟩:=q3 i x hx;have:=c2 j hj;rw [kS (by omega),addadd _ _ (spot (by grind))] at this;obtain ⟨_,c,m1,m2⟩:=pS this;refine ⟨c,_,m1,m2,fun y hy=>?_⟩;obtain ⟨v,g1,g2⟩:=c3.at_ j y hy;simp_all
   refine .lsp ?_ q5;by_cases hne:ys = []
   ·subst hne;simp at q1';subst q1';exact .ps (sz:=P.cellsOf e) (c:=#[]) (by simp) (fun h=>by grind) (fun h=>absurd rfl h) (fun x h=>by simp_all) (fun i x j y h=>by simp_all)
   ·have hlen:0<ys.length:=qw.2 hne;obtain ⟨x0,hx0⟩ : ∃ x,ys[ys.length - 1]? = some x:=⟨ys[ys.length - 1],by simp⟩
    obtain ⟨c,v0,m1,m2,_⟩:=cell (ys.length - 1) (P.cellsOf e - 1) x0 hx0 (by omega);have hc:=(rf.1 m2).1;have hfit:a.off+ys.length * P.cellsOf e≤c.size:=by
     have h1:(ys.length - 1) * P.cellsOf e+P.cellsOf e=ys.length * P.cellsOf e:=by rw [← qv];grind
     omega
    have:=VRel.ps (pl:=fun _=>none) (M:=cp w) (xs:=ys) (tight:=false) (a:=a) (cap:=cap) (sz:=P.cellsOf e) (c:=c) (by omega) (fun h=>by grind) (fun _=>⟨spot hne,m1,hfit,hsz⟩) q4
     (fun i x j y hx hy=>by
      obtain ⟨r1,_⟩:=q4 x (bD hx);have hj:j<P.cellsOf e:=by grind
      obtain ⟨c',v,n1,n2,n3⟩:=cell i j x hx hj;simp_all)
    simp_all
theorem lm {α:Type} (el:α→AV) (fit:α→Prop) {t e:TypeId} {fuel:Nat} {cs:List Value} {d:DataW H} {p:List MemPlace} (hu:P.underlying t=some (.slice e)) (hsz:Nat.blt 0 (P.cellsOf e)=true) (hby:Nat.blt 0 (P.bytesOf e)=true)
  (hel : ∀ x,(el x).cells.length=P.cellsOf e) (hsc : ∀ x,(el x).cells.all cM=true) (htop : ∀ x,(el x).top=0)
  (hrec : ∀ m,m<fuel→∀ cs d p,DataW.trod enc P w base spare held m e cs=some (d,p)→Wt P e d→∃ x,fit x∧VL (cp w) (el x).cells cs)
  (h:DataW.trod enc P w base spare held fuel t cs=some (d,p)) (hw:Wt P t d) :
  ∃ l:List α,l.length<2 ^ 60∧(∀ x,x∈l→fit x)∧VL (cp w) [.ls (l.map el)] cs:=by
 have ⟨l,h1,h2⟩:=He el fit hu hsz hby hel hsc htop hrec h hw;grind
end
end Go.Ev
namespace Go.Ev
open Go
structure PPair where
 a:Int
 b:Int
deriving Inhabited,DecidableEq
def bY (p:PPair):AV:= .agg [.int .i64 p.a, .int .i64 p.b]
theorem Uh (p:PPair):(bY p).top=0:=rfl
structure PRef where
 act:Int
 item:Int
deriving Inhabited,DecidableEq
def mz (u:TUnit):List PWord:=u.head++u.words
mutual
def mZ:TUnit→List PWord
 | ⟨_,_,_,_,_,h,w,ks⟩=>(h++w)++j3 ks
def j3:List TUnit→List PWord
 | []=> []
 | k::r=>mZ k++j3 r
end
theorem KS (u:TUnit):mZ u=mz u++j3 u.kids:=by obtain ⟨a,b,c,d,e,h,w,ks⟩:=u;rw [mZ];rfl
theorem CU:j3 [] = []:=by rw [j3]
theorem ry (k:TUnit) (r:List TUnit):j3 (k::r)=mZ k++j3 r:=by rw [j3]
theorem vW : ∀ (n:Nat) (s:List Nat),s.Nodup→(∀ i,i∈s→i<n)→s.length≤n
 | 0,s,_,h=>by
  cases s with
  | nil=>simp_all
  | cons x r=>grind [List.mem_cons_self]
 | n+1,s,hs,h=>by
  have h1:=vW n (s.erase n) (hs.erase n) fun i hi=>by grind
  grind
theorem Rx {n:Nat} {s:List Nat} (hs:s.Nodup) (h : ∀ i,i∈s→i<n) (hd : ∀ i,i<n→i∈s):s.Perm (List.range n):=(List.perm_ext_iff_of_nodup hs List.nodup_range).2 fun i=>⟨fun hi=>List.mem_range.2 (h i hi),fun hi=>hd i (List.mem_range.1 hi)⟩
theorem Ll {α:Type} [Inhabited α] (l:List α):(List.range l.length).map (gD l)=l:=by
 refine List.ext_getElem (by simp) fun i h1 h2=>?_
 grind [gD]
theorem yZ {s:List Nat} {i:Nat} (h:s.Nodup) (hi : ¬ i∈s):(s++ [i]).Nodup:=by grind
section
variable {u w' : TUnit} {ws : List PWord} {w : PWord} {r : List PWord} {ks : List TUnit} {m x : List (Int × Int)} {c B : Int}
end
theorem VRel.ls0 {pl:Pl} {M:dz} {x:Value} (h:VRel pl M (.ls []) x):VRel pl M .nils x∨VRel pl M (.ps [] false) x:=by
 cases h with
 | lsn=>exact .inl .nils
 | lsp h _=>simp_all
theorem DA {P:Program} {G:eg} {f:FuncId} {a b c:List AV} {h:AHeap} {Ψ:AV→AHeap→Prop} (hs : ∀ pl M vs,VRels pl M c vs→VRels pl M a vs∨VRels pl M b vs) (h1:aB P G f a h Ψ) (h2:aB P G f b h Ψ):aB P G f c h Ψ:=fun pl M w vs hg hr hv=>(hs pl M vs hv).elim (h1 pl M w vs hg hr) (h2 pl M w vs hg hr)
theorem VRels.first {pl:Pl} {M:dz} {x y z:AV} {r:List AV} {vs:Array Value} (h:VRels pl M (z::r) vs) (hs : ∀ v,VRel pl M z v→VRel pl M x v∨VRel pl M y v):VRels pl M (x::r) vs∨VRels pl M (y::r) vs:=by
 obtain ⟨h1,h2⟩:=h;have lift : ∀ u,VRel pl M u (vs.getD 0 undef)→VRels pl M (u::r) vs:=fun u hu=>⟨h1,fun j y hj=>by
  cases j with
  | zero=>grind
  | succ j=>simp_all⟩
 exact (hs _ (h2 0 z rfl)).imp (lift x) (lift y)
end Go.Ev
namespace Go.Ev
open Go
theorem aA {n b m:Nat} (h1:n≤m) (h2:m≤2 ^ 40) (h3:m * b≤2 ^ 40):small n b=true:=by
 unfold small;have h4:n * b≤m * b:=fz b h1;grind [Nat.ble_eq_true_of_le]
theorem N8 {seen:List Nat} {i n:Nat} (hn:seen.Nodup) (hb : ∀ i,i∈seen→i<n) (hi:i<n) (hs : ¬ i∈seen):seen.length<n:=by
 have:=vW n (seen++ [i]) (yZ hn hs) (fun j hj=>by grind);grind
end Go.Ev
namespace Go.Ev
open Go
def R3 {α:Type} : Result α→World
 | .ok _ w=>w
 | .halt _ w=>w
def gW:GStep→World
 | .go _ w _=>w
 | .comm _ _ _ _ w _=>w
 | .spawn _ _ w _=>w
 | .count _ w _=>w
 | .timer _ _ w _=>w
 | .alone _ _ w _=>w
 | .newcoro _ _ _ w _=>w
 | .coroswitch _ _ _ w _=>w
 | .collect _ w _=>w
 | .watch _ w _=>w
 | .ended _ w _=>w
theorem ki (es:Array Event) (g:GStep):gW (GStep.after es g)=gW g:=by cases g <;> rfl
theorem II {α:Type} : ∀ (q:Ask α) (w:World),w.drawn≤(w.ask q).2.drawn
 | .done a,w=>ar _
 | .ask what range k,w=>by
  rw [World.ask];split
  ·exact II (k 0) w
  ·exact bL (mq _) (II _ { w with drawn:=w.drawn+1 })
theorem NG (w:World) (c:Sys):w.drawn≤(w.sys c).2.drawn:=by
 unfold World.sys;have h:=II (Kernel.perform c w.os) w;grind
theorem wQ {p:Program} {w w':World} {at_:Addr} {u:TypeId} {k:Addr} {v:Value} {b:Bool} {l:List Addr} (h:w.viewStore p at_ u k v b = .ok (w',l)):w'.drawn=w.drawn:=by
 unfold World.viewStore at h;simp only [bind,Except.bind,pure,Except.pure] at h
 repeat' split at h
 all_goals first | cases h;done | (injection h with h;injection h with h1 h2;rw [← h1])
theorem yS {p:Program} {w w':World} {a:Addr} {v:Value} {b:Bool} {l:List Addr} (h:w.farStore p a v b = .ok (w',l)):w'.drawn=w.drawn:=by
 unfold World.farStore at h
 repeat' split at h
 all_goals first | cases h;done | grind [wQ]
theorem C3 (w:World) (a:Addr) (n:Nat):(w.freeze a n).drawn=w.drawn:=by unfold World.freeze;grind
theorem OX (p:Program) {α:Type} (s:Sem α) : ∀ (w:World),w.drawn≤(R3 (s.run p w)).drawn:=by
 induction s with
 | pure a=>exact fun w=>ar _
 | load m a k ih=>
  intro w;simp only [Sem.run]
  repeat' split
  all_goals first | exact ih _ _ | exact ar _
 | store m a v k ih=>
  intro w;cases v
  all_goals simp only [Sem.run]
  all_goals first
   | exact ar _
   | ((repeat' split);all_goals first | exact ar _ | exact ih (w.setCell _ _) | (rename_i e;refine bL ?_ (ih _);rw [yS e];exact ar _))
 | new o k ih=>grind [Sem.run]
 | shape r k ih=>grind [Sem.run]
 | freeze a n k ih=>intro w;simp only [Sem.run];refine bL ?_ (ih _);simp_all [C3]
 | frozen a k ih=>grind [Sem.run]
 | getObj r k ih=>
  intro w;simp only [Sem.run]
  repeat' split
  all_goals first | exact ih _ _ | exact ar _
 | setObj r o k ih=>
  intro w;simp only [Sem.run]
  repeat' split
  all_goals first | exact ih { w with heap:=w.heap.setIfInBounds r o } | exact ar _
 | choose q k ih=>
  intro w;simp only [Sem.run];grind
 | sys c k ih=>grind [Sem.run,NG]
 | program k ih=>grind [Sem.run]
 | mark m k ih=>grind [Sem.run]
 | halt h=>exact fun w=>ar _
theorem cL {p:Program} {α:Type} {s:Sem α} {w:World} {r:Result α} (h:s.run p w=r):w.drawn≤(R3 r).drawn:=h ▸ OX p s w
theorem RO {p:Program} {α:Type} {s:Sem α} {w:World} {es es':Array Event} {r:Result α} (h:s.runT p w es=(r,es')):w.drawn≤(R3 r).drawn:=by
 have:=Sem.runT_fst p s w es;rw [h] at this;exact cL this.symm
theorem Il (w:World) (fd:Nat) (text:ByteArray) (o:Outcome):w.drawn≤(gW (endWith w fd text o)).drawn:=by
 unfold endWith;simp only [];have h:=NG w (.write fd text);split;all_goals (rename_i e;rw [e] at h)
 all_goals repeat' split
 all_goals exact h
theorem vt (fr:Frame) (m:String) (w:World):w.drawn≤(gW (endThrow fr m w)).drawn:=ar _
theorem pb (p:Program) (fr:Frame) (v:Value) (w:World):w.drawn≤(gW (endPrinting p fr v w)).drawn:=by
 unfold endPrinting;simp only []
 repeat' split
 all_goals exact ar _
theorem vu (p:Program) (fr:Frame) (cs:List Frame) (d:Option Dying) (m:String) (w:World):w.drawn≤(gW (endFatal p fr cs d m w)).drawn:=by
 unfold endFatal;simp only [];split;all_goals (rename_i e;exact cL e)
theorem HX (p:Program) (fr:Frame) (d:Dying) (f:Fatal) (w:World):w.drawn≤(gW (writeOn p fr d f w)).drawn:=by
 unfold writeOn;split
 ·exact ar _
 ·simp only [];split;all_goals (rename_i e;exact RO e)
theorem V4 (p:Program) (fr:Frame) (d:Dying) (w:World):w.drawn≤(gW (die p fr d w)).drawn:=by
 unfold die;split
 ·grind [HX]
 ·split
  ·split
   ·exact ar _
   grind [Il]
  ·simp only [];split
   ·exact ar _
   ·split;all_goals (rename_i e;exact cL e)
   ·rw [ki];split;all_goals first | (rename_i e;exact cL ((Sem.runT_fst ..).symm.trans e)) | skip
    ·rename_i e;exact bL (cL ((Sem.runT_fst ..).symm.trans e)) (pb ..)
    ·exact ar _
   ·exact ar _
theorem pd (p:Program) (main:Bool) (fr:Frame) (cs:List Frame) (d:Option Dying) (v:Value) (w:World):w.drawn≤(gW (doReturn p main fr cs d v w)).drawn:=by
 unfold doReturn
 repeat' split
 all_goals exact ar _
theorem rJ {c:Prop} [Decidable c] {a b:GStep} {n:Nat} (h1:n≤(gW a).drawn) (h2:n≤(gW b).drawn):n≤(gW (if c then a else b)).drawn:=by grind
theorem wY (p:Program) (fr:Frame) (cs:List Frame) (dy:Option Dying) (d:Deferred) (w:World):w.drawn≤(gW (callDeferred p fr cs dy d w)).drawn:=by
 unfold callDeferred;refine rJ ?_ ?_
 ·exact ar _
 ·simp only [];rw [ki];split;all_goals (rename_i e;have h:=cL ((Sem.runT_fst ..).symm.trans e))
  all_goals first | exact h | exact bL h (vu ..) | ((repeat' split) <;> exact h)
theorem LQ (p:Program) (main:Bool) (fr:Frame) (cs:List Frame) (dy:Option Dying) (w:World):w.drawn≤(gW (unwind p main fr cs dy w)).drawn:=by
 unfold unwind;split
 ·simp only [];rw [ki];split;all_goals (rename_i e;exact cL ((Sem.runT_fst ..).symm.trans e))
 ·grind [wY]
 ·split
  ·exact ar _
  ·split
   ·exact ar _
   ·split
    ·exact ar _
    ·split
     ·split
      ·exact ar _
      ·split;all_goals (rename_i e;exact cL e)
     ·split
      ·grind [pb]
      ·exact ar _
  ·split
   ·grind [pd]
   ·simp only [];rw [ki];split;all_goals (rename_i e;have h:=cL ((Sem.runT_fst ..).symm.trans e))
    all_goals first | exact h | exact bL h (pd ..)
theorem Qo (p:Program) (fr:Frame) (cs:List Frame) (dy:Option Dying) (g:Nat) (w:World):w.drawn≤(gW (early p fr cs dy g w)).drawn:=by
 unfold early;simp only []
 repeat' split
 all_goals first | exact ar _ | (rename_i e;exact cL e) | (rename_i e _;exact cL e) | (rename_i e _ _;exact cL e) | (rename_i e _ _ _ _;exact cL e)
theorem s9 (p:Program) (listen:Bool) (fr:Frame) (cs:List Frame) (dy:Option Dying) (s:Sem Next) (w:World):w.drawn≤(gW (stepG.apply p listen fr cs dy s w)).drawn:=by
 unfold stepG.apply;simp only [];rw [ki];have h0:w.drawn≤(R3 (if listen=true then Sem.runT p s w #[] else (Sem.run p s w,#[])).fst).drawn:=by
  cases listen
  ·grind [OX]
  ·exact cL (Sem.runT_fst ..).symm
 generalize (if listen=true then Sem.runT p s w #[] else (Sem.run p s w,#[])).fst=r at h0 ⊢;split;all_goals first | exact h0 | exact bL h0 (vu ..) | exact bL h0 (Qo ..) | exact bL h0 (vt ..) | skip
 all_goals repeat' split
 all_goals first | exact h0 | exact bL h0 (vt ..) | skip
theorem Sx (p:Program) (listen:Bool) (fr:Frame) (cs:List Frame) (dy:Option Dying) (w:World):w.drawn≤(gW (stepG.oper p listen fr cs dy w)).drawn:=by
 unfold stepG.oper;split
 ·exact ar _
 ·split;all_goals exact s9 ..
theorem Tc (p:Program) (main listen:Bool) (fr:Frame) (cs:List Frame) (dy:Option Dying) (w:World):w.drawn≤(gW (stepG.exec p main listen fr cs dy w)).drawn:=by
 have lv : ∀ (l : Nat) (jump : Option Code), w.drawn ≤ (gW (GStep.after (seen p fr.fn ((Instr.endRound l jump).runT p w #[]).snd) (match ((Instr.endRound l jump).runT p w #[]).fst with | .ok v w => doReturn p main fr cs dy v w | .halt _ w => .ended (.stuck "range over a function: no such loop" (fr.pos p)) w))).drawn := by
  intro l jump;rw [ki];have h0:=cL (Sem.runT_fst p (Instr.endRound l jump) w #[]).symm;split;all_goals (rename_i e;rw [e] at h0)
  ·exact bL h0 (pd ..)
  ·exact h0
 unfold stepG.exec;simp only [];split;all_goals first | exact ar _ | exact s9 .. | skip
 ·split
  ·exact rJ (ar _) (ar _)
  grind
 ·split
  ·exact rJ (ar _) (ar _)
  grind
 ·split <;> exact ar _
 ·rename_i id k _;cases exitTo id k with
  | none=>simp only [Option.elim];split;exact rJ (ar _) (ar _);grind
  | some k'=>exact ar _
 ·rename_i id k _;cases gotoIn id k with
  | none=>simp only [Option.elim];split;exact rJ (ar _) (ar _);grind
  | some k'=>exact ar _
 ·rw [ki];split
  ·rename_i e;exact bL (cL ((Sem.runT_fst ..).symm.trans e)) (s9 ..)
  ·rename_i e;exact cL ((Sem.runT_fst ..).symm.trans e)
 ·rw [ki];split <;> rename_i e <;> exact cL ((Sem.runT_fst ..).symm.trans e)
 ·rename_i row _ _ _;cases Extern.next row with
  | none=>exact ar _
  | some e=>grind [s9]
 ·refine rJ (ar _) ?_;split <;> rename_i e <;> exact cL e
 ·exact rJ (Sx ..) (ar _)
theorem NL (p:Program) (main listen:Bool) (g:Goroutine) (w:World):w.drawn≤(gW (stepG p main g w listen)).drawn:=by
 unfold stepG;grind [V4,Tc,LQ]
def sD (n:Nat):Stepped→Prop
 | .next m=>n≤m.world.drawn
 | .ended _ _=>True
theorem sD.trans {n k:Nat} {s:Stepped} (h:n≤k) (g:sD k s):sD n s:=by
 cases s with
 | next m=>exact bL h g
 | ended o w=>trivial
theorem Pb {c:Prop} [Decidable c] {a b:Stepped} {n:Nat} (h1:sD n a) (h2:sD n b):sD n (if c then a else b):=by grind
theorem J8 (p:Program) (gs:Array Goroutine) (rest:Rest) (w:World):sD w.drawn (look p gs rest w):=by
 unfold look;simp only [];split
 ·refine Pb trivial ?_;split
  ·trivial
  ·split <;> rename_i e <;> first | exact cL e | trivial
 ·trivial
theorem v8 {rest:Rest} {cases:Array CommCase} {w w':World} (h:waitingAt rest cases w=some w'):w'.drawn=w.drawn:=by
 unfold waitingAt at h
 repeat' split at h
 all_goals first | (cases h;done) | (cases h;rfl)
theorem CP {c:Prop} [Decidable c] {a b:Stepped × Array MemOp} {n:Nat} (h1:sD n a.1) (h2:sD n b.1):sD n (if c then a else b).1:=by grind
theorem zf (p:Program) (rest:Rest) (gs:Array Goroutine) (i:Nat) (g:Goroutine) (cs:Array CommCase) (bl:Bool) (sh:CommShape) (w:World):sD w.drawn (communicate p rest gs i g cs bl sh w).1:=by
 unfold communicate;simp only [];refine CP trivial (CP (CP ?_ (ar _)) ?_)
 ·split
  ·rename_i e;exact wO (v8 e).symm
  ·trivial
 ·split
  ·trivial
  ·rename_i w1 e;have h:w.drawn≤w1.drawn:=cL e;clear e;split
   ·split
    ·rename_i e;exact bL h (cL e)
    ·trivial
   ·exact h
   ·exact h
   ·split
    ·exact h
    ·split
     ·rename_i e;exact bL h (cL e)
     ·trivial
   ·exact h
   ·exact h
   ·trivial
theorem N6 (p:Program) (m:Machine) (k:Nat):sD m.world.drawn (serve p m k):=by
 unfold serve;split
 ·trivial
 ·exact ar _
 ·simp only [];split
  ·trivial
  ·exact ar _
theorem AY {m m':Machine} {op:TimerOp} {v:Value} (h:timerOp m op = .ok (v,m')):m'.world.drawn=m.world.drawn:=by
 have rt : ∀ (m:Machine) (k:Nat) (t:Timer) (a b:Nat),(retime m k t a b).2.world.drawn=m.world.drawn:=by
  intro m k t a b;unfold retime drain;grind
 cases op with
 | new t=>
  simp only [timerOp] at h
  repeat' split at h
  all_goals first | (cases h;done) | (cases h;rfl)
 | stop var=>
  simp only [timerOp,timerOp.named] at h;grind
 | reset var a b=>
  simp only [timerOp,timerOp.named,timerOp.opened] at h;split at h
  ·rename_i e;have e2 : ∀ m2:Machine,(if waitedFor m var=true then match Kernel.withPoller m.world.os with | .ok os=>some { m with world:= { m.world with os } } | .error _=>none else some m)=some m2→m2.world.drawn=m.world.drawn:=by
    intro m2 e
    repeat' split at e
    all_goals first | (cases e;done) | (cases e;rfl)
   grind
  ·grind
 | deadline a b c d=>simp only [timerOp] at h;cases h;rfl
theorem RN (p:Program) (m:Machine) (i:Nat) (b:Bool):sD m.world.drawn (runT p m i b).1:=by
 unfold runT;simp only [];have h:=NL p (i == 0) b (m.gs.swapAt! i { (default:Goroutine) with status:= .finished }).1 m.world;generalize stepG p (i == 0) (m.gs.swapAt! i { (default:Goroutine) with status:= .finished }).1 m.world b=s at h ⊢;cases s
 all_goals simp only []
 all_goals try exact h
 all_goals try trivial
 ·exact sD.trans h (zf ..)
 ·exact Pb trivial h
 ·split
  ·rename_i e;exact bL h (wO (AY e).symm)
  ·split
   ·rename_i e;cases e;exact h
   ·trivial
  ·trivial
  ·trivial
 ·split
  ·exact h
  ·split
   ·rename_i e;cases e;exact h
   ·trivial
  ·trivial
 ·exact sD.trans h (J8 ..)
def Nj (n:Nat):Move→Prop
 | .goroutine m _=>n≤m.world.drawn
 | .machine s _=>sD n s
theorem Nj.trans {n k:Nat} {s:Move} (h:n≤k) (g:Nj k s):Nj n s:=by
 cases s with
 | goroutine m i=>exact bL h g
 | machine s o=>exact sD.trans h g
theorem zu (p:Program) (m:Machine):Nj m.world.drawn (askOn p m):=by
 have pick : ∀ (m:Machine) (rs:List Nat),Nj m.world.drawn (match (choose (.sched rs.length)).run p m.world with
   | .halt _ w => .machine (.ended (.stuck "sched" "") w)
   | .ok k world=>
    if rs.length≤1 then .goroutine { m with world } (rs.getD k 0) else
    match (choose (.extern "sched.slice" 65536)).run p world with
    | .halt _ w => .machine (.ended (.stuck "sched.slice" "") w)
    | .ok n world=> .goroutine { m with world,rest:= { m.rest with slice:=if n=0 then none else some (rs.getD k 0,n) } } (rs.getD k 0)):=by
  intro m rs;split
  ·trivial
  ·rename_i w1 e;have h:m.world.drawn≤w1.drawn:=cL e;split
   ·exact h
   ·split
    ·trivial
    ·rename_i e;exact bL h (cL e)
 unfold askOn;simp only [];split
 ·trivial
 ·rename_i k w1 e;have h:m.world.drawn≤w1.drawn:=cL e;clear e;split
  ·exact sD.trans h (N6 p { m with world:=w1 } _)
  ·split
   ·split
    ·exact h
    ·split
     ·exact h
     ·split <;> trivial
   ·split
    ·exact Nj.trans h (pick { m with world:=w1 } _)
    ·split
     ·trivial
     ·rename_i w2 e;exact Nj.trans (bL h (cL e)) (pick { m with world:=w2 } _)
     ·rename_i e;exact bL h (cL e)
     ·rename_i k2 w2 e;exact Nj.trans (bL h (cL e)) (pick (Machine.advanceTo { m with world:=w2 } _) _)
theorem KO (p:Program) (m:Machine):Nj m.world.drawn (ask p m):=by
 unfold ask;split
 ·split
  ·trivial
  ·rename_i w1 e;have h:m.world.drawn≤w1.drawn:=cL e;have h2:=J8 p m.gs m.rest w1;split
   ·rename_i e2;rw [e2] at h2;exact Nj.trans (bL h h2) (zu ..)
   ·exact sD.trans h h2
  ·rename_i w1 _ e;have h:m.world.drawn≤w1.drawn:=cL e;exact Nj.trans h (zu p { m with world:=w1 })
 grind [zu]
theorem Sg (p:Program) (m:Machine):Nj m.world.drawn (move p m):=by
 unfold move;split
 ·split
  ·exact ar _
  ·trivial
 ·split
  ·split
   ·exact ar _
   ·exact KO p { m with rest:= { m.rest with slice:=none } }
  grind [KO]
theorem RD (p:Program) (m:Machine):sD m.world.drawn (step p m):=by
 unfold step stepT;have h:=Sg p m;split
 ·rename_i e;rw [e] at h;exact sD.trans h (RN ..)
 ·rename_i e;rw [e] at h;exact h
theorem Jr (p:Program) : ∀ (n:Nat) (m m':Machine),runN p n m = .next m'→m.world.drawn≤m'.world.drawn
 | 0,m,m',h=>by cases h;omega
 | n+1,m,m',h=>by
  rw [runN] at h;have h1:=RD p m;split at h
  ·rename_i e;rw [e] at h1;exact bL h1 (Jr p n _ _ h)
  simp_all
theorem NI {p:Program} {m m':Machine} (h:Steps p m m'):m.world.drawn≤m'.world.drawn:=by
 obtain ⟨n,h⟩:=h;exact Jr p n m m' h
theorem Gu {p:Program} {f:FuncId} {args:Array Value} {w:World} {R:Ending→World→Prop} (h:Calls p f args w R):Calls p f args w fun e w'=>R e w'∧((∃ v,e = .returned v)→w.drawn≤w'.drawn):=by
 intro cs;obtain ⟨e,w',fr,h1,h2,h3,h4⟩:=h cs;refine ⟨e,w',fr,⟨h1,?_⟩,h2,h3,h4⟩
 rintro ⟨v,rfl⟩
 exact NI (m:=lone _ cs w) (m':=lone fr cs w') h2
end Go.Ev
namespace Go.Ev
open Go Go.RowKit
section
variable {P : Program} {G : eg} {pl : Pl} {M : dz} {h : AHeap} {w w' : World} {f : FuncId} {args : List AV} {v : AV}
theorem ct.below (hr:ct pl M h w) (hb:Below w.heap.size w w'):ct pl M h w':=
 ⟨hr.dom,fun id p o h1 h2=>by rw [hb.block _ (hr.blk id p h1)];exact hr.obj id p o h1 h2,fun id p h1=>ur (hr.blk id p h1) hb.size,hr.inj,
  fun b c h1=>by rw [hb.block _ (hr.memLt h1)];exact hr.imm b c h1,hr.sep⟩
theorem cW.below (hb:Below w.heap.size w w') (hd:w.drawn≤w'.drawn):cW h pl M w h pl M w':=⟨lg.refl _,fun _ _ h=>h,fun _ _ h=>h,hb.size,fun b h1 _=>hb.block b h1,fun id p h=> .inl ⟨p,h,rfl⟩,fun _ _ _ h=>h,fun _ _ h _=>h,fun _ _ h=> .inl h,hb.os,hb.tape,hb.output,hd⟩
theorem bw.below (hE : ∀ vs w,(callFunc f vs).run P w = .ok (.enter f vs) w)
  (hC : ∀ (pl:Pl) (M:dz) (w:World) (vs:Array Value) (h:AHeap),nb G pl M→ct pl M h w→VRels pl M args vs→∃ cv,VRel pl M v cv∧Calls P f vs w fun e w'=>e = .returned cv∧Below w.heap.size w w'):bw P G f args v:=by
 intro h pl M w vs hG hr hv;obtain ⟨cv,h1,h2⟩:=hC pl M w vs h hG hr hv;refine .inl ⟨hE _ _,Calls.mono (Gu h2) fun e w' ⟨⟨he,hb⟩,hd⟩=>?_⟩;exact ⟨cv,v,h,he,⟨rfl,rfl⟩,pl,M,h1,hr.below hb,cW.below hb (hd ⟨_,he⟩),ar _⟩
theorem bw.calls (hGT:gH G) (hE : ∀ vs w,(callFunc f vs).run P w = .ok (.enter f vs) w) (hp:bw P G f args v) (hG:nb G pl M) (hr:ct pl M h w) {vs:Array Value} (hv:VRels (fun _=>none) M args vs) :
  Calls P f vs w fun e w'=>(∃ cv pl' M',e = .returned cv∧VRel pl' M' v cv)∧Below w.heap.size w w'∧w.drawn≤w'.drawn:=by
 have r0:ct (fun _=>none) M AHeap.none w:=⟨fun _ _ h=>(by grind),fun _ _ _ h _=>(by grind),fun _ _ h=>(by grind),fun _ _ _ _ h _ _=>(by grind),hr.imm,fun _ _ h=>(by grind)⟩
 rcases hp AHeap.none (fun _=>none) M w vs (hG.none hGT) r0 hv with ⟨_,h2⟩ | ⟨cv,w1,v1,h1,e1,_,_⟩
 ·refine Calls.mono h2 fun e w' ⟨cv,v1,h1,he,⟨e1,e2⟩,pl',M',g1,g2,g3,_⟩=>?_
  subst e1;exact ⟨⟨cv,pl',M',he,g1⟩,⟨g3.os,g3.tape,g3.out,g3.size,fun b hb=>g3.kept b hb fun id p h=>(by grind)⟩,g3.drawn⟩
 ·grind
end
end Go.Ev
namespace Go.Ev
open Go
def AW (lo hi:Int) (c:UInt8):Bool:=aV (ao (.ofNat c.toNat) lo || ao hi (.ofNat c.toNat))
abbrev ec:UInt8→Bool:=AW 48 57
abbrev Au:UInt8→Bool:=AW 65 90
def cN (p:UInt8→Bool) (s:aP):Nat:=(s.takeWhile p).length
section
variable {p : UInt8 → Bool} {s : aP}
theorem rN:cN p s≤s.length:=(List.takeWhile_prefix p).length_le
theorem Cm : ∀ {s:aP} {i:Nat},i<cN p s→p (gD s i)=true
 | [],i,h=>by simp_all [cN]
 | c::r,i,h=>by
  cases hc:p c with
  | false=>simp_all [cN]
  | true=>
   cases i with
   | zero=>exact hc
   | succ i=>exact Cm (s:=r) (by simp_all [cN])
theorem xn : ∀ {s:aP},cN p s<s.length→p (gD s (cN p s))=false
 | [],h=>by simp_all
 | c::r,h=>by
  cases hc:p c with
  | false=>simp [cN,hc,gD]
  | true=>
   have h2:cN p r<r.length:=by simp_all [cN]
   have:=xn (s:=r) h2;simp_all [cN,gD]
theorem tD : ∀ {s:aP},cN p s=s.length↔s.all p=true
 | []=>by simp [cN]
 | c::r=>by
  have ih:cN p r=r.length↔r.all p=true:=tD;cases hc:p c with
  | false=>simp [cN,hc]
  | true=>simp_all [cN]
theorem Cl {i:Nat} (h1 : ∀ j,j<i→p (gD s j)=true) (h2:i≤s.length) (h3:i<s.length→p (gD s i)=false):cN p s=i:=by grind [xn,rN,Cm]
end
theorem IY {lo hi:Int} {c:UInt8} (h1:ao (.ofNat c.toNat) lo=false) (h2:ao hi (.ofNat c.toNat)=false):AW lo hi c=true:=by grind [AW]
theorem IU {lo hi:Int} {c:UInt8} (h1:ao (.ofNat c.toNat) lo=true):AW lo hi c=false:=by grind [AW]
theorem CS {lo hi:Int} {c:UInt8} (h1:ao hi (.ofNat c.toNat)=true):AW lo hi c=false:=by grind [AW]
def fu (s:aP):Bool:=aV (ao (.ofNat (s.take (cN ec s)).length) 1) && (aV (ao 4 (.ofNat (s.take (cN ec s)).length)) && (aV (az (.ofNat (gD (s.take (cN ec s)) 0).toNat) 48) && (aV (ao 3 (.ofNat (s.drop (cN ec s)).length)) && (s.drop (cN ec s)).all Au)))
def gh (s:aP):Bool:=aV (ao (.ofNat s.length) 1) && (aV (ao 24 (.ofNat s.length)) && s.all (AW 33 126))
def lX (l:List aP):Bool:=aV (ao 256 (.ofNat l.length)) && l.all gh
theorem CI:({ data:=#[] } : ByteArray).data.toList=([]:List UInt8):=rfl
theorem Qm (s:aP):ao (.ofNat s.length) 1=dS s []:=by cases s <;> rfl
def aT {α:Type} (p:α→Bool):List α→Nat→Int
 | [],_=> -1
 | x::r,i=>bif p x then Int.ofNat i else aT p r (i+1)
theorem kh {α:Type} (p:α→Bool) : ∀ (l:List α) (i:Nat),ao (aT p l i) 0=aV (l.any p)
 | [],_=>rfl
 | x::r,i=>by
  unfold aT;rw [List.any_cons];cases h:p x with
  | true=>rfl
  | false=>simp_all [kh]
section
variable {α : Type} {p : α → Bool} {l x r : List α} {w : α} {j : Nat}
theorem nK (h1:l.drop j=x) (h2:x=w::r):l.length - (w::r).length=j∧l.length - r.length=j+1:=by grind
theorem lK (h1:l.drop j=x) (h2:x=w::r) (h3:aT p l 0=aT p (w::r) (l.length - (w::r).length)) (h4:p w=true):aT p l 0=Int.ofNat j:=by rw [h3,(nK h1 h2).1,aT,h4];rfl
theorem jL (h1:l.drop j=x) (h2:x=w::r) (h3:aT p l 0=aT p (w::r) (l.length - (w::r).length)) (h4:p w=false):aT p l 0=aT p r (l.length - r.length):=by rw [h3,(nK h1 h2).1,(nK h1 h2).2,aT,h4];rfl
theorem lc:aT p l 0=aT p l (l.length - l.length):=by simp_all
end
def mX (s:PStep):Bool:=az s.kind 0 && dS s.label []
def rH (s:PStep):Bool:=ao 0 s.kind && (aV (ao 7 s.kind) && fu s.label)
def wU:List PStep→Bool
 | []=>true
 | s::r=>(mX s || rH s) && r.all rH
def gO (p:List PStep):Bool:=wU p && aV (ao 9 (.ofNat p.length))
def tK (p r:List PStep):Bool:=bif Nat.beq r.length p.length then wU r else r.all rH
theorem NK {p:List PStep} : wU p=tK p p:=by simp_all [tK]
theorem T6 {p:List PStep} : tK p []=true:=by unfold tK;cases Nat.beq ([]:List PStep).length p.length <;> rfl
theorem Dg {p x r:List PStep} {w:PStep} {j:Nat} (h1:p.drop j=x) (h2:x=w::r) (h3:wU p=tK p (w::r)):wU p=((bif az (Int.ofNat j) 0 then (mX w || rH w) else rH w) && tK p r):=by
 obtain ⟨e1,e2⟩:=nK h1 h2;have e3:=congrArg List.length (h1.trans h2);simp only [jW,fg] at e1 e2 e3;have f1:Nat.beq r.length p.length=false:=by cases h:Nat.beq r.length p.length with | false=>rfl | true=>grind [Nat.eq_of_beq_eq_true]
 rw [h3];unfold tK;rw [f1];cases j with
 | zero=>
  have f2:Nat.beq (w::r).length p.length=true:=by simp_all
  rw [f2];rfl
 | succ j=>
  have f2:Nat.beq (w::r).length p.length=false:=by cases h:Nat.beq (w::r).length p.length with | false=>rfl | true=>simp_all
  rw [f2];rfl
def dZ:Int→aP
 | 0=> [98,111,111,107]
 | 1=> [112,97,114,116]
 | 2=> [115,101,99,116,105,111,110]
 | 3=> [112,97,114,97,103,114,97,112,104]
 | 4=> [116,97,98,108,101]
 | 5=> [114,111,119]
 | 6=> [99,101,108,108]
 | 7=> [110,111,116,101]
 | _=> []
def Hj:Int→List Int
 | 0=> [1,2]
 | 1=> [2]
 | 2=> [3,4,7]
 | 3=> [3,4,7]
 | 4=> [5]
 | 5=> [6]
 | _=> []
def jZ (p k:Int):Bool:=(Hj p).any (az k)
theorem yg {k:Int} (h1:0≤k) (h2:k≤7):k=0∨k=1∨k=2∨k=3∨k=4∨k=5∨k=6∨k=7:=by omega
theorem H8 {k:Int} (h:k<0∨7<k):dZ k = []:=by
 unfold dZ;grind
theorem Hx {k:Int} (h:k<0∨7<k):Hj k = []:=by
 unfold Hj;grind
end Go.Ev
namespace Go.Ev
open Go Go.RowKit Go.Proofs
structure ClassOf (p:UInt8→Bool) (q:Nat→Bool):Prop where
 low : ∀ c:UInt8,c.toNat<128→q c.toNat=aV (p c)
 high : ∀ n,128≤n→q n=true
 none : ∀ c:UInt8,128≤c.toNat→p c=false
theorem Tz {s:aP} {i:Nat} (h:i<s.length) (h2:i<ByteArray.size ⟨⟨s⟩⟩):(ByteArray.mk ⟨s⟩)[i]'h2=gD s i:=by
 simp [gD,List.getD,kS h];rfl
theorem sg {p:UInt8→Bool} {q:Nat→Bool} (hc:ClassOf p q) (s:aP) : ∀ (f pos:Nat),pos≤cN p s→s.length≤pos+f→Lib.idxFuncFrom q true ⟨⟨s⟩⟩ f pos=(bif Nat.beq (cN p s) s.length then -1 else Int.ofNat (cN p s))
 | f,pos,h1,h2=>by
  have hl:=rN (p:=p) (s:=s);have hsz:ByteArray.size ⟨⟨s⟩⟩=s.length:=rfl;by_cases he:pos<s.length
  ·cases f with
   | zero=>omega
   | succ f=>
    unfold Lib.idxFuncFrom;rw [hsz,if_pos he];have hb:=Tz he (by rw [hsz];exact he);by_cases hr:pos<cN p s
    ·have hp:=Cm hr;have ha:(gD s pos).toNat<128:=by
      rcases jJ (gD s pos).toNat 128 with h | h
      ·exact h
      ·rw [hc.none _ h] at hp;cases hp
     rw [decode_ascii _ pos (by rw [hsz];exact he) (by rw [hb];exact ha),hb];rw [if_neg (by rw [hc.low _ ha,hp];decide)];exact sg hc s f (pos+1) hr (by omega)
    ·have e:cN p s=pos:=by omega
     have hp:=xn (p:=p) (s:=s) (by omega);rw [e] at hp;have hq:q (Utf8.decode ⟨⟨s⟩⟩ pos).1=true:=by
      rcases jJ (gD s pos).toNat 128 with h | h
      ·rw [decode_ascii _ pos (by rw [hsz];exact he) (by rw [hb];exact h),hb,hc.low _ h,hp];rfl
      ·exact hc.high _ (decode_high _ pos (by rw [hsz];exact he) (by rw [hb];exact h)).1
     rw [if_pos hq,e];have f1:Nat.beq pos s.length=false:=by cases h:Nat.beq pos s.length with | false=>rfl | true=>have:=j1 h;omega
     rw [f1];rfl
  ·have e:cN p s=s.length:=by omega
   rw [Lib.idxFuncFrom_end _ _ _ _ _ (by rw [hsz];exact he),e,mC];rfl
theorem vv {p:UInt8→Bool} {q:Nat→Bool} (hc:ClassOf p q) (s:aP):Lib.idxFunc q true ⟨⟨s⟩⟩=(bif Nat.beq (cN p s) s.length then -1 else Int.ofNat (cN p s)):=sg hc s _ 0 (bN _) (by show s.length≤0+s.length;omega)
section
variable {P : Program} {G : eg} {f g : FuncId}
theorem Bw {pl:Pl} {M:dz} {w:World} {h:AHeap} (hGT:gH G) (hg2 : ∀ args w,(callFunc g args).run P w = .ok (.enter g args) w) {q:Nat→Bool} {qI:Int→Bool} (hp : ∀ r:Int,bw P G g [.int .i32 r] (.bool (qI r))) (hq : ∀ n:Nat,qI (.ofNat n)=q n)
  (hG:nb G pl M) (hr:ct pl M h w):PredGrows P g #[] q w:=by
 intro W x _ hb;refine Calls.mono (bw.calls hGT hg2 (hp (.ofNat x)) hG (hr.below hb) (vs:=#[.int .i32 (.ofNat x)]) ⟨rfl,fun j y hj=>?_⟩) fun e w' ⟨⟨cv,pl',M',he,hv⟩,hb',_⟩=>?_
 ·cases j with
  | zero=>simp at hj;subst hj;exact .int _ _
  | succ j=>simp_all
 grind [cases VRel]
theorem yo (hGT:gH G) (hE : ∀ vs w,(callFunc f vs).run P w = .ok (.enter f vs) w) (hg2 : ∀ args w,(callFunc g args).run P w = .ok (.enter g args) w) {q:Nat→Bool} {qI:Int→Bool}
  (hC : ∀ (s:ByteArray) (w:World),PredGrows P g #[] q w→Calls P f #[.string s, .func (.func g) #[] #[]] w fun e w'=>e = .returned (.int .i64 (Lib.idxFunc q true s))∧Below w.heap.size w w')
  (hp : ∀ r:Int,bw P G g [.int .i32 r] (.bool (qI r))) (hq : ∀ n:Nat,qI (.ofNat n)=q n) {p:UInt8→Bool} (hc:ClassOf p q) (s:aP) :
  bw P G f [.str s, .func (.func g) [] []] (.int .i64 (bif Nat.beq (cN p s) s.length then -1 else Int.ofNat (cN p s))):=by
 refine bw.below hE fun pl M w vs h hG hr hv=>?_
 obtain ⟨a,b,rfl,hv1,hv2⟩:=zC hv;have e2:=xE hv2;subst e2;cases hv1
 rw [← vv hc s];exact ⟨_, .int _ _,hC ⟨⟨s⟩⟩ w (Bw hGT hg2 hp hq hG hr)⟩
theorem sR (hGT:gH G) (hE : ∀ vs w,(callFunc f vs).run P w = .ok (.enter f vs) w) (hg2 : ∀ args w,(callFunc g args).run P w = .ok (.enter g args) w) {q:Nat→Bool} {qI:Int→Bool}
  (hC : ∀ (s:ByteArray) (w:World),PredGrows P g #[] q w→Calls P f #[.string s, .func (.func g) #[] #[]] w fun e w'=>e = .returned (.bool (decide (0≤Lib.idxFunc q true s)))∧Below w.heap.size w w')
  (hp : ∀ r:Int,bw P G g [.int .i32 r] (.bool (qI r))) (hq : ∀ n:Nat,qI (.ofNat n)=q n) {p:UInt8→Bool} (hc:ClassOf p q) (s:aP) :
  bw P G f [.str s, .func (.func g) [] []] (.bool (aV (s.all p))):=by
 refine bw.below hE fun pl M w vs h hG hr hv=>?_
 obtain ⟨a,b,rfl,hv1,hv2⟩:=zC hv;have e2:=xE hv2;subst e2;cases hv1
 have e:aV (s.all p)=decide (0≤Lib.idxFunc q true ⟨⟨s⟩⟩):=by
  rw [vv hc s];cases ha:s.all p with
  | true=>rw [(tD (p:=p)).2 ha,mC];rfl
  | false=>
   have:Nat.beq (cN p s) s.length=false:=by
    cases hb:Nat.beq (cN p s) s.length with
    | false=>rfl
    | true=>grind [tD,Nat.eq_of_beq_eq_true]
   simp_all
 rw [e];exact ⟨_, .bool _,hC ⟨⟨s⟩⟩ w (Bw hGT hg2 hp hq hG hr)⟩
end
theorem Gs {lo hi:Nat} (h:hi<128):ClassOf (AW (Int.ofNat lo) (Int.ofNat hi)) fun n=>ao (Int.ofNat n) (Int.ofNat lo) || ao (Int.ofNat hi) (Int.ofNat n) where
 low c _:=by unfold AW;simp_all
 high n hn:=by rw [show ao (Int.ofNat hi) (Int.ofNat n)=true from E5 (by grind)];simp_all
 none c hn:=CS (E5 (by grind))
end Go.Ev
namespace Go.Ev
open Go Go.RowKit
section
variable {P : Program} {G : eg} {f : FuncId}
theorem Hw {pl:Pl} {M:dz} {w:World} {h:AHeap} (hr:ct pl M h w) {l:List aP} {a:Addr} {n cap:Nat} (hv:VRel pl M (.ps (l.map lT) false) (.slice (some a) n cap)) (hne:l≠ []) :
  n=l.length∧n≤cap∧a=⟨a.block,a.off,none⟩∧a.block<w.heap.size∧∀ (j:Nat) (x:ByteArray),(l.map fun s=>(⟨⟨s⟩⟩:ByteArray))[j]? = some x→w.cell? ⟨a.block,a.off+j,none⟩=some (.string x):=by
 cases hv with
 | ps hl ht hm hs hc=>
  rename_i sz c;have hne':l.map lT≠ []:=by simp_all
  obtain ⟨m1,m2,m3,m4⟩:=hm hne';obtain ⟨t,fr,hb⟩:=hr.imm _ _ m2;have hsz:sz=1:=by
   cases l with
   | nil=>simp_all
   | cons s r=>exact ((hs (lT s) (by simp)).1).symm
  subst hsz;refine ⟨by simp,hl,by rw [← m1],hr.memLt m2,fun j x hj=>?_⟩;rw [ri] at hj;obtain ⟨s,e1,rfl⟩:=Option.map_eq_some_iff.1 hj;have hlt:j<l.length:=(iU.1 e1).1;have q:=hc j (lT s) 0 (.str s) (by simp_all) rfl;rw [Nat.mul_one,uB] at q;have hin:a.off+j<c.size:=by grind
  have e2:c[a.off+j]? = some (c.getD (a.off+j) undef):=by simp_all
  simp only [World.cell?,hb];simp only [Option.isSome_none,gg,if_false];rw [e2];cases hq:c.getD (a.off+j) undef <;> rw [hq] at q <;> cases q
  rfl
theorem L6 (hE : ∀ vs w,(callFunc f vs).run P w = .ok (.enter f vs) w)
  (hC : ∀ (bk o c:Nat) (xs:List ByteArray) (sep:ByteArray) (w:World),(∀ (j:Nat) x,xs[j]? = some x→w.cell? ⟨bk,o+j,none⟩=some (.string x))→bk<w.heap.size→xs.length≤140737488355328→xs.length≤c→
   (Lib.join (xs.map (·.data.toList)) sep.data.toList).length≤140737488355328→
   Calls P f #[.slice (some ⟨bk,o,none⟩) xs.length c, .string sep] w fun e w'=>e = .returned (.string ⟨(Lib.join (xs.map (·.data.toList)) sep.data.toList).toArray⟩)∧Below w.heap.size w w')
  (hN : ∀ (a:Option Addr) (c:Nat) (sep:ByteArray) (w:World),Calls P f #[.slice a 0 c, .string sep] w fun e w'=>e = .returned (.string ⟨#[]⟩)∧w'=w)
  (l:List aP) (sep:aP) (h1:l.length≤140737488355328) (h2:(Lib.join l sep).length≤140737488355328):bw P G f [.ls (l.map lT), .str sep] (.str (Lib.join l sep)):=by
 refine bw.below hE fun pl M w vs h hG hr hv=>?_
 obtain ⟨a,b,rfl,hv1,hv2⟩:=zC hv;cases hv2
 have nil (p:Option Addr) (cap:Nat) (hl:l = []) : ∃ cv,VRel pl M (.str (Lib.join l sep)) cv∧Calls P f #[.slice p 0 cap, .string ⟨⟨sep⟩⟩] w fun e w'=>e = .returned cv∧Below w.heap.size w w':=by
  subst hl;exact ⟨.string ⟨⟨[]⟩⟩, .str _,Calls.mono (hN p cap ⟨⟨sep⟩⟩ w) fun e w' ⟨he,hw⟩=>⟨he,hw ▸ Below.refl _ _⟩⟩
 generalize hx:l.map lT=xs at hv1;cases hv1 with
 | lsn=>simp_all
 | lsp hp ht=>
  subst hx;by_cases hl:l = []
  ·subst hl;cases hp with
   | ps=>simp_all
  ·have hp':=hp;cases hp with
   | ps=>
    rename_i a cap sz c _ _ _ _ _;obtain ⟨e1,e2,e3,e4,e5⟩:=Hw hr hp' hl;have e6:(l.map fun s=>(⟨⟨s⟩⟩:ByteArray)).map (·.data.toList)=l:=by rw [List.map_map];exact List.map_id l
    have:=hC a.block a.off cap (l.map fun s=>⟨⟨s⟩⟩) ⟨⟨sep⟩⟩ w e5 e4 (by grind) (by grind) (by grind);rw [e6,← e3,eZ,← e1] at this;exact ⟨.string ⟨⟨Lib.join l sep⟩⟩, .str _,this⟩
theorem EA (hE : ∀ vs w,(callFunc f vs).run P w = .ok (.enter f vs) w)
  (hC : ∀ (s:ByteArray) (c:Nat) (w:World),c≤9223372036854775807→s.size * c≤140737488355328→Calls P f #[.string s, .int .i64 c] w fun e w'=>e = .returned (.string ⟨(Lib.repeatL s.data.toList c).toArray⟩)∧Below w.heap.size w w')
  (s:aP) (c:Nat) (h1:c≤9223372036854775807) (h2:s.length * c≤140737488355328):bw P G f [.str s, .int .i64 (.ofNat c)] (.str (Lib.repeatL s c)):=by
 refine bw.below hE fun pl M w vs h hG hr hv=>?_
 obtain ⟨a,b,rfl,hv1,hv2⟩:=zC hv;cases hv1;cases hv2
 exact ⟨.string ⟨⟨Lib.repeatL s c⟩⟩, .str _,hC ⟨⟨s⟩⟩ c w h1 h2⟩
theorem LX (hE : ∀ vs w,(callFunc f vs).run P w = .ok (.enter f vs) w)
  (hC : ∀ (s cs:ByteArray) (w:World),s.size≤9223372036854775807→cs.size<4294967281→(∀ (j:Nat) b,cs.data.toList[j]? = some b→b.toNat<128)→
   Calls P f #[.string s, .string cs] w fun e w'=>e = .returned (.string ⟨(Lib.trimS s.data.toList cs.data.toList).toArray⟩)∧Below w.heap.size w w')
  (s cs:aP) (h1:s.length≤9223372036854775807) (h2:cs.length<4294967281) (h3 : ∀ b,b∈cs→b.toNat<128):bw P G f [.str s, .str cs] (.str (Lib.trimS s cs)):=by
 refine bw.below hE fun pl M w vs h hG hr hv=>?_
 obtain ⟨a,b,rfl,hv1,hv2⟩:=zC hv;cases hv1;cases hv2
 exact ⟨.string ⟨⟨Lib.trimS s cs⟩⟩, .str _,hC ⟨⟨s⟩⟩ ⟨⟨cs⟩⟩ w h1 h2 fun j b hj=>h3 b (bD hj)⟩
end
end Go.Ev
namespace Go.Ev
open Go
structure PId where
 a:Int
 i:Int
 n:Int
 deriving Inhabited,DecidableEq
noncomputable def aZ (p:PId):AV:= .agg [.int .i64 p.a, .int .i64 p.i, .int .i64 p.n]
theorem zK (p:PId):(aZ p).top=0:=rfl
def al (u:TUnit):PId:=⟨u.act,u.item,u.n⟩
def aM (p q:PId):Bool:=az p.a q.a && (az p.i q.i && az p.n q.n)
theorem sC {p q:PId} (h:aM p q=true):p=q:=by
 unfold aM at h;rw [ba,ba] at h;obtain ⟨a,b,c⟩:=p;obtain ⟨d,e,g⟩:=q;grind [eJ]
theorem jy (p:PId):aM p p=true:=by simp [aM,bF]
abbrev gQ (p:PId) (u:TUnit):Bool:=aM (al u) p
theorem IW:KeyOf PId true 3 [(0,1),(1,1),(2,1)] aZ aM where
 eq a b:=by
  show zQ [.int .i64 a.a, .int .i64 a.i, .int .i64 a.n] [.int .i64 b.a, .int .i64 b.i, .int .i64 b.n] [(0,1),(1,1),(2,1)]=_
  simp only [zQ,lw,Te,Nv,mM,aM];cases h1:az a.a b.a <;> cases h2:az a.i b.i <;> cases h3:az a.n b.n <;> rfl
 t a b h:=sC h
 refl a:=jy a
 same a:=by simp [aZ,oV,j6,lj,mM,bF]
 top a:=rfl
mutual
def nU:TUnit→Nat
 | ⟨_,_,_,_,_,_,_,ks⟩=>1+cV ks
def cV:List TUnit→Nat
 | []=>0
 | k::r=>nU k+cV r
end
mutual
def fD:TUnit→Nat
 | ⟨_,_,_,_,_,_,_,ks⟩=>eh ks
def eh:List TUnit→Nat
 | []=>0
 | k::r=>Nat.max (1+fD k) (eh r)
end
mutual
def bB:TUnit→List TUnit
 | ⟨x1,x2,x3,x4,x5,x6,x7,ks⟩=>⟨x1,x2,x3,x4,x5,x6,x7,ks⟩::dQ ks
def dQ:List TUnit→List TUnit
 | []=> []
 | k::r=>bB k++dQ r
end
mutual
def an (p:PId):TUnit→List TUnit
 | ⟨x1,x2,x3,x4,x5,x6,x7,ks⟩=>bif gQ p ⟨x1,x2,x3,x4,x5,x6,x7,ks⟩ then [⟨x1,x2,x3,x4,x5,x6,x7,ks⟩] else match ch p ks with
  | []=> []
  | y::t=>⟨x1,x2,x3,x4,x5,x6,x7,ks⟩::y::t
def ch (p:PId):List TUnit→List TUnit
 | []=> []
 | k::r=>match an p k with
  | []=>ch p r
  | y::t=>y::t
end
theorem iz (u:TUnit):nU u=1+cV u.kids:=by cases u;rw [nU];rfl
theorem kq:cV []=0:=by rw [cV]
theorem bm (k:TUnit) (r:List TUnit):cV (k::r)=nU k+cV r:=by rw [cV]
theorem DK (u:TUnit):fD u=eh u.kids:=by cases u;rw [fD];rfl
theorem B2:eh []=0:=by rw [eh]
theorem Ip (k:TUnit) (r:List TUnit):eh (k::r)=Nat.max (1+fD k) (eh r):=by rw [eh]
theorem dx (u:TUnit):bB u=u::dQ u.kids:=by cases u;rw [bB];rfl
theorem fG:dQ [] = []:=by rw [dQ]
theorem bT (k:TUnit) (r:List TUnit):dQ (k::r)=bB k++dQ r:=by rw [dQ]
def cC (u:TUnit):List PId:=(bB u).map al
def bz (l:List TUnit):List PId:=(dQ l).map al
theorem gC (u:TUnit):cC u=al u::bz u.kids:=by unfold cC bz;rw [dx];rfl
theorem j9:bz [] = []:=by unfold bz;rw [fG];rfl
theorem dO (k:TUnit) (r:List TUnit):bz (k::r)=cC k++bz r:=by grind [cC,bz,bT]
theorem CE : ∀ {l:List TUnit} {k:TUnit},k∈l→nU k≤cV l
 | x::r,k,h=>by
  rw [bm];rcases gx.1 h with rfl | h
  ·omega
  ·have:=CE h;omega
theorem fW {u k:TUnit} (h:k∈u.kids):nU k<nU u:=by rw [iz u];have:=CE h;omega
theorem HS (u:TUnit):0<nU u:=by grind [iz]
theorem wm : ∀ (l:List TUnit),l.length≤cV l
 | []=>by simp_all
 | k::r=>by
  rw [bm,fg];have:=wm r;grind [HS]
theorem bq (u:TUnit):u.kids.length<nU u:=by grind [iz,wm]
theorem Lo {l:List TUnit} (h : ∀ k,k∈l→(bB k).length=nU k):(dQ l).length=cV l:=by
 induction l with
 | nil=>rw [fG,kq];rfl
 | cons k r ih=>grind [bT,bm]
theorem xM : ∀ (u:TUnit),(bB u).length=nU u:=TUnit.ind fun u ih=>by grind [dx,iz,Lo]
theorem si (u:TUnit):(cC u).length=nU u:=by grind [cC,xM]
theorem Qu {l:List TUnit} {n:Nat} (h : ∀ k,k∈l→1+fD k≤n):eh l≤n:=by
 induction l with
 | nil=>grind [B2]
 | cons k r ih=>grind [Ip]
theorem wF : ∀ (u:TUnit),fD u<nU u:=TUnit.ind fun u ih=>by
 have:eh u.kids≤cV u.kids:=Qu fun k hk=>by have:=ih k hk;have:=CE hk;omega
 grind [DK,iz]
section
variable {p : PId} {u w : TUnit} {r : List TUnit}
theorem gU (u:TUnit):an p u=bif gQ p u then [u] else match ch p u.kids with | []=> [] | y::t=>u::y::t:=by cases u;rw [an];rfl
theorem j4:ch p [] = []:=by rw [ch]
theorem nm (k:TUnit) (r:List TUnit):ch p (k::r)=match an p k with | []=>ch p r | y::t=>y::t:=by rw [ch]
def cb (p:PId) (u:TUnit):Bool:=aV (an p u).isEmpty
theorem yA (h:cb p u=false):an p u = []:=by grind [cb]
theorem uq (h:cb p u=true) : ∃ y t,an p u=y::t:=by
 unfold cb at h;cases e:an p u with
 | nil=>grind
 | cons x r=>simp_all
theorem kz (h:cb p u=true):an p u≠ []:=by grind [uq]
theorem ru (h:gQ p u=true):an p u = [u]:=by rw [gU,h];rfl
theorem C1 (h:gQ p u=true):cb p u=true:=by unfold cb;rw [ru h];rfl
theorem iF (h:cb p w=false):ch p (w::r)=ch p r:=by rw [nm,yA h]
theorem mE (h:cb p w=true):ch p (w::r)=an p w:=by grind [uq,nm]
theorem Nr (h:gQ p u=false) (h2:ch p u.kids=ch p []):an p u = []:=by rw [gU,h,h2,j4];rfl
theorem Fl (h:gQ p u=false) (h2:ch p u.kids=ch p []):cb p u=false:=by unfold cb;rw [Nr h h2];rfl
theorem Jw (h:gQ p u=false) (h2:ch p u.kids=ch p (w::r)) (h3:cb p w=true):an p u=u::an p w:=by grind [gU,mE,uq]
theorem TW (h:gQ p u=false) (h2:ch p u.kids=ch p (w::r)) (h3:cb p w=true):cb p u=true:=by unfold cb;rw [Jw h h2 h3];rfl
end
theorem lQ {p:PId} : ∀ (u:TUnit),(an p u).length≤nU u:=TUnit.ind fun u ih=>by
 rw [gU];cases gQ p u with
 | true=>exact HS u
 | false=>
  have key : ∀ (r:List TUnit),(∀ k,k∈r→k∈u.kids)→(ch p r).length≤cV r:=by
   intro r;induction r with
   | nil=>grind [j4]
   | cons k r ihr=>grind [nm,bm]
  grind [iz]
def bu:TUnit:=⟨0,0,0,0, [], [], [], []⟩
noncomputable def eW (p:PId) (u:TUnit):TUnit:=bif cb p u then gD (an p u) ((an p u).length - 1) else bu
theorem Jy {p:PId} : ∀ (u:TUnit) (x:TUnit),x∈an p u→x∈bB u:=TUnit.ind fun u ih=>by
 intro x hx;rw [gU] at hx;rw [dx];cases h:gQ p u with
 | true=>simp_all
 | false=>
  rw [h] at hx;simp only [cond_false] at hx;have key : ∀ (r:List TUnit),(∀ k,k∈r→k∈u.kids)→∀ x,x∈ch p r→x∈dQ r:=by
   intro r;induction r with
   | nil=>grind [j4]
   | cons k r ihr=>grind [nm,bT]
  grind
noncomputable def oA (p:Int × aP):AV:= .agg [.int .i64 p.1, .str p.2]
def kN (a b:Int × aP):Bool:=az a.1 b.1 && dS a.2 b.2
theorem nX : ∀ (s:aP),dS s s=true
 | []=>rfl
 | c::r=>by simp only [dS,nX r,Bool.and_true];simp_all
theorem GX : ∀ {a b:aP},dS a b=true→a=b
 | [], [],_=>rfl
 | c::r,d::q,h=>by
  simp only [dS,ba] at h;rw [GX h.2,UInt8.toNat_inj.1 (j1 h.1)]
theorem KV:KeyOf (Int × aP) true 2 [(0,1),(1,2)] oA kN where
 eq a b:=by
  show zQ [.int .i64 a.1, .str a.2] [.int .i64 b.1, .str b.2] [(0,1),(1,2)]=_
  simp only [zQ,lw,Te,Nv,mM,kN];cases h1:az a.1 b.1 <;> cases h2:dS a.2 b.2 <;> rfl
 t a b h:=by
  simp only [kN,ba] at h;grind [eJ,GX]
 refl a:=by simp [kN,bF,nX]
 same a:=by simp [oA,oV,j6,lj,mM,bF,nX]
 top a:=rfl
noncomputable def kQ (b:Bool):AV:= .bool b
theorem zz (b:Bool):(kQ b).top=0:=rfl
def Nw {K:Type} (keq:K→K→Bool) (k:K) (l:List (K × Bool)):Bool:=(uz keq k l).getD false
section
variable {K : Type} {ag : Bool} {sz : Nat} {lv : List (Nat × Nat)} {kenc : K → AV} {keq : K → K → Bool}
theorem E8 (hk:KeyOf K ag sz lv kenc keq) (m:List (K × Bool)) (k:K):gp (some (.bool false)) false (cE ag sz lv (kenc k) (be kenc kQ m 0) 0)=some (.bool (Nw keq k m)):=by
 rw [H2 hk];unfold Nw;cases uz keq k m with
 | none=>rfl
 | some v=>rfl
theorem Ja (hk:KeyOf K ag sz lv kenc keq) (m:List (K × Bool)) (k:K):D8 (be kenc kQ m 0) m.length (kenc k) (.bool true) (cE ag sz lv (kenc k) (be kenc kQ m 0) 0)=some (be kenc kQ (iZ keq k true m) 0,(iZ keq k true m).length):=K9 (f:=kQ) hk k true m
end
def fm (l:List PWord):Bool:=aV (ao 256 (.ofNat l.length)) && lX (l.map fun w=>w.text)
def ef (pk:Int):List TUnit→List ((Int × aP) × Bool)→Bool
 | [],_=>true
 | k::r,m=>jZ pk k.kind && (aV (Nw kN (k.kind,k.label) m) && ef pk r (iZ kN (k.kind,k.label) true m))
def kK (u:TUnit):Bool:=(bif az u.kind 0 then dS u.label [] && aV (ao 0 (.ofNat (u.head.length+u.words.length))) else aV (dS (dZ u.kind) []) && (fu u.label && (fm u.head && fm u.words))) && (ef u.kind u.kids [] && aV (ao 64 (.ofNat u.kids.length)))
def tJ (q:TUnit→Bool) (u:TUnit):Bool:=(bB u).all q
theorem wI (q:TUnit→Bool) (u:TUnit):tJ q u=(q u && (dQ u.kids).all q):=by grind [tJ,dx]
theorem NJ (q:TUnit→Bool):(dQ []).all q=true:=by rw [fG];rfl
theorem zI (q:TUnit→Bool) (k:TUnit) (r:List TUnit):(dQ (k::r)).all q=(tJ q k && (dQ r).all q):=by rw [bT,List.all_append];rfl
def mw (l:List PId) (m:List (PId × Bool)):List (PId × Bool):=l.foldl (fun m p=>iZ aM p true m) m
def cQ:PId:=⟨0,0,0⟩
def L8 (u:TUnit):Bool:=(Nw aM cQ (mw (cC u) []) && az (.ofNat (mw (cC u) []).length) 1) || (az (.ofNat (mw (cC u) []).length) (.ofNat (cC u).length) && (az u.kind 0 == gQ cQ u))
def jz (u:TUnit):Bool:=tJ kK u && (aV (ao 8 (.ofNat (fD u))) && (aV (ao 1024 (.ofNat (nU u))) && L8 u))
theorem bC {u k:TUnit} (h:k∈u.kids) {x:TUnit} (hx:x∈bB k):x∈bB u:=by
 rw [dx];refine kw _ ?_;generalize u.kids=l at h;induction l with
 | nil=>grind
 | cons y r ih=>grind [bT]
theorem dJ (u:TUnit):u∈bB u:=by grind [dx]
theorem CN {u k:TUnit} (h:k∈u.kids):k∈bB u:=bC h (dJ k)
end Go.Ev
namespace Go.Ev
open Go
def bv {α:Type} (q:α→α→Bool):List α→List α→Bool
 | [], []=>true
 | x::l,y::m=>q x y && bv q l m
 | _,_=>false
theorem nZ {α:Type} {q:α→α→Bool} : ∀ {l m:List α},l.length≠m.length→bv q l m=false
 | [], [],h=>absurd rfl h
 | [],y::m,_=>rfl
 | x::l, [],_=>rfl
 | x::l,y::m,h=>by
  unfold bv;rw [nZ (l:=l) (m:=m) (fun e=>h (by simp [e]))];exact Bool.and_false _
theorem GZ {α:Type} {q:α→α→Bool} (hq : ∀ a b,q a b=true↔a=b) : ∀ {l m:List α},bv q l m=true↔l=m
 | [], []=>by simp [bv]
 | [],y::m=>by simp [bv]
 | x::l, []=>by simp [bv]
 | x::l,y::m=>by simp [bv,hq,GZ hq (l:=l) (m:=m)]
section
variable {α : Type} [Inhabited α] {q : α → α → Bool} {l m x r : List α} {w : α} {j : Nat}
omit [Inhabited α] in
theorem VR:bv q l m=bv q l (m.drop (l.length - l.length)):=by simp_all
theorem pM {m:List α} {j:Nat} (h:j<m.length):m.drop j=gD m j::m.drop (j+1):=by grind [List.drop_eq_getElem_cons,gD]
theorem kx (h1:l.drop j=x) (h2:x=w::r) (hl:l.length=m.length) (h3:bv q l m=bv q (w::r) (m.drop (l.length - (w::r).length))):bv q l m=(q w (gD m j) && bv q r (m.drop (l.length - r.length))):=by
 have e:=congrArg List.length (h1.trans h2);simp only [jW,fg] at e;rw [h3,(nK h1 h2).1,(nK h1 h2).2,pM (by omega),bv]
omit [Inhabited α] in
theorem py (hl:l.length=m.length) (h3:bv q l m=bv q [] (m.drop (l.length - ([]:List α).length))):bv q l m=true:=by rw [h3,oh,Nat.sub_zero,hl,List.drop_length];rfl
end
def yT (a b:PWord):Bool:=dS a.text b.text && (az a.act b.act && (az a.item b.item && az a.at_ b.at_))
theorem Td (a b:PWord):yT a b=true↔a=b:=by
 obtain ⟨t,x,y,z⟩:=a;obtain ⟨t',x',y',z'⟩:=b;simp only [yT,ba,PWord.mk.injEq];constructor
 ·grind [GX,eJ]
 ·grind [nX,bF]
mutual
def y7:TUnit→TUnit→Bool
 | ⟨a,i,n,k,l,h,w,ks⟩,v=>aM ⟨a,i,n⟩ (al v) && (az k v.kind && (dS l v.label && (bv yT h v.head && (bv yT w v.words && Mm ks v.kids))))
def Mm:List TUnit→List TUnit→Bool
 | [], []=>true
 | k::r, []=>false
 | k::r,x::s=>y7 k x && Mm r s
 | [],x::s=>false
end
theorem Qc (u v:TUnit):y7 u v=(aM (al u) (al v) && (az u.kind v.kind && (dS u.label v.label && (bv yT u.head v.head && (bv yT u.words v.words && bv y7 u.kids v.kids))))):=by
 have key : ∀ (l m:List TUnit),Mm l m=bv y7 l m:=by
  intro l;induction l with
  | nil=>intro m;cases m <;> (rw [Mm];rfl)
  | cons x l ih=>intro m;cases m with | nil=>rw [Mm];rfl | cons y m=>rw [Mm,ih];rfl
 cases u
 rw [y7,key];rfl
theorem Kl : ∀ (u v:TUnit),y7 u v=true↔u=v:=TUnit.ind fun u ih=>by
 have key : ∀ (l:List TUnit),(∀ k,k∈l→k∈u.kids)→∀ m,bv y7 l m=true↔l=m:=by
  intro l;induction l with
  | nil=>grind [bv]
  | cons x l ihl=>
   intro hm m;cases m with
   | nil=>simp [bv]
   | cons y m=>grind [bv]
 intro v;rw [Qc];simp only [ba,key u.kids (fun _ h=>h),GZ Td];obtain ⟨a,i,n,k,l,h,w,ks⟩:=u;obtain ⟨a',i',n',k',l',h',w',ks'⟩:=v;simp only [TUnit.mk.injEq,al,TUnit.act,TUnit.item,TUnit.n,TUnit.kind,TUnit.label,TUnit.head,TUnit.words,TUnit.kids];constructor
 ·grind [sC,eJ,GX]
 ·rintro ⟨rfl,rfl,rfl,rfl,rfl,rfl,rfl,rfl⟩
  exact ⟨jy _,bF _,nX _,rfl,rfl,rfl⟩
end Go.Ev
namespace Go.Ev
open Go
def HQ (u v:AV):Prop:=(Sc v→Sc u)∧Les u.cells v.cells
theorem HQ.refl (v:AV):HQ v v:=⟨id,Les.refl _⟩
theorem HQ.one {u v:AV} (hu:u.cells = [u]) (hv:v.cells = [v]) (hs:cM u=true) (h:Le u v):HQ u v:=⟨fun _ y hy=>by simp_all,by rw [hu,hv];exact .cons h .nil⟩
inductive LesC:List AV→List AV→Prop
 | nil:LesC [] []
 | cons {u v:AV} {us vs:List AV} (h:HQ u v) (k:LesC us vs):LesC (u::us) (v::vs)
theorem LesC.len {us vs:List AV} (h:LesC us vs):us.length=vs.length:=by
 induction h with
 | nil=>rfl
 | cons _ _ ih=>simp_all
theorem LesC.at_ {us vs:List AV} (h:LesC us vs) : ∀ (j:Nat) (u:AV),us[j]? = some u→∃ v,vs[j]? = some v∧HQ u v:=by
 induction h with
 | nil=>simp_all
 | cons h k ih=>grind
theorem Dp {xs ys:List AV} {t:Bool} (h:LesC xs ys):Le (.ps xs false) (.ps ys t):=fun pl M v hv=>by
 cases hv with
 | @ps _ _ a cap sz c hl ht hm hs hc=>
  rw [← h.len];refine .ps (sz:=sz) (c:=c) (by rw [h.len];omega) (fun h=>by grind) (fun hx=>?_) (fun x hx=>?_) fun i x j y hx hy=>?_
  ·have:ys≠ []:=fun e=>hx (rl (by rw [h.len,e];rfl))
   rw [h.len];simp_all
  ·obtain ⟨i,hi⟩:=AO hx;obtain ⟨y,h1,h2,h3⟩:=h.at_ i x hi;have:=hs y (bD h1);exact ⟨h3.len.trans this.1,h2 this.2⟩
  ·obtain ⟨z,h1,_,h3⟩:=h.at_ i x hx;obtain ⟨d,h4,h5⟩:=h3.at_ j y hy;exact h5 _ _ _ (hc i z j d h1 h4)
theorem WY {xs ys:List AV} {t:Bool} (h:LesC xs ys) (h0:aY xs=0):Le (.ls xs) (.ps ys t):=fun pl M v hv=> .lsp (Dp h pl M v hv) h0
theorem WU {xs ys:List AV} (h:LesC xs ys) (h0:aY xs=0):Le (.ls xs) (.ls ys):=fun pl M v hv=>by
 cases hv with
 | lsn=>cases h;exact .lsn
 | lsp hv _=>exact .lsp (Dp h pl M v hv) h0
theorem Le.pls {x:AV} {xs ys:List AV} (h:LesC (x::xs) ys):Le (.ps (x::xs) false) (.ls ys):=fun pl M v hv=>by
 cases hv with
 | lsn=>cases h
 | lsp hv _=>exact Dp h pl M v hv
mutual
def AX:AV→AV→Bool
 | .ls xs, .nils=>xs.isEmpty
 | .ls xs, .ps ys _=>jP xs ys && Nat.beq (aY xs) 0
 | .ls xs, .ls ys=>jP xs ys && Nat.beq (aY xs) 0
 | .ps (x::xs) false, .ls ys=>jP (x::xs) ys
 | .ps xs false, .ps ys _=>jP xs ys
 | .agg us, .agg vs=>jP us vs && us.all cM
 | u,v=>AV.same u v
def jP:List AV→List AV→Bool
 | [], []=>true
 | a::us,b::vs=>AX a b && jP us vs
 | _,_=>false
end
theorem HQ.same {u v:AV} (h:AV.same u v=true):Le u v∧HQ u v:=by grind [AV.same_eq,Le.refl,HQ.refl]
mutual
theorem Cz : ∀ (u v:AV),AX u v=true→Le u v∧HQ u v:=fun u v h=>by
 unfold AX at h;split at h
 ·rename_i xs;have e:xs = []:=by simp_all
  subst e;exact ⟨Le.nils,HQ.one rfl rfl rfl Le.nils⟩
 ·rename_i xs ys t;have h:=qx.1 h;have k:=WY (t:=t) (ja xs ys h.1).2 (j1 h.2);exact ⟨k,HQ.one rfl rfl rfl k⟩
 ·rename_i xs ys;have h:=qx.1 h;have k:=WU (ja xs ys h.1).2 (j1 h.2);exact ⟨k,HQ.one rfl rfl rfl k⟩
 ·rename_i x xs ys;have k:=Le.pls (ja (x::xs) ys h).2;exact ⟨k,HQ.one rfl rfl rfl k⟩
 ·rename_i xs ys t;have k:=Dp (t:=t) (ja xs ys h).2;exact ⟨k,HQ.one rfl rfl rfl k⟩
 ·rename_i us vs;have h:=qx.1 h;have k:=ja us vs h.1;exact ⟨bX k.1 h.2,fun _ y hy=>jp.1 h.2 y hy,k.1⟩
 ·exact HQ.same h
theorem ja : ∀ (us vs:List AV),jP us vs=true→Les us vs∧LesC us vs:=fun us vs h=>by
 unfold jP at h;split at h
 ·exact ⟨.nil, .nil⟩
 ·rename_i a us b vs;have h:=qx.1 h;have h1:=Cz a b h.1;have h2:=ja us vs h.2;exact ⟨.cons h1.1 h2.1, .cons h1.2 h2.2⟩
 ·grind
end
section
variable {P : Program} {G : eg} {f : FuncId} {a b : List AV} {u v : AV}
theorem bw.args (h:bw P G f a v) (hl:Les a b):bw P G f b v:=fun hp pl M w vs hg hr hv=>h hp pl M w vs hg hr (hv.le hl)
theorem bw.lessB (h:bw P G f a v) (hl:AX u v=true):bw P G f a u:=h.less (Cz _ _ hl).1
theorem O7 (a b:Nat):X8 (.ofNat a) (.ofNat b) = .ofNat (Nat.max a b):=by
 unfold X8;cases h:ao (.ofNat a) (.ofNat b) with
 | true=>
  have h:=aJ h;grind
 | false=>
  have h:=av h;simp_all
theorem bj {xs ys:List AV} {i t:Nat} {r:List (Nat × Nat)} {x y:AV} {e c:Bool} (hx:lw xs i=some x) (hy:lw ys i=some y) (h:Nv t x y=some e) (k:zQ xs ys r=some c):zQ xs ys ((i,t)::r)=some (e && c):=by
 simp only [zQ,hx,hy,Te,h];cases e with
 | true=>exact k
 | false=>rfl
theorem da {xs ys:List AV} {i t:Nat} {r:List (Nat × Nat)} {x y:AV} {e:Bool} (hx:lw xs i=some x) (hy:lw ys i=some y) (h:Nv t x y=some e) (k:zQ xs ys r=some true):zQ xs ys ((i,t)::r)=some e:=by
 simp only [zQ,hx,hy,Te,h];cases e with
 | true=>exact k
 | false=>rfl
theorem cA {d:Option TypeDesc} {n:Nat} {l:List (Nat × Nat)} {xs ys:List AV} {c:Bool} {H:AHeap} (hn:(Nat.beq xs.length n && Nat.beq ys.length n)=true) (hl:zQ xs ys l=some c) :
  bo H (UD (qY .eql d (some true) (some n) (some l)) (some (.agg xs)) (some (.agg ys)))=some (.val (.bool c) H):=by
 grind [UD,qY,VP,nO,bo]
theorem kj {d:Option TypeDesc} {n:Nat} {l:List (Nat × Nat)} {xs ys:List AV} {c:Bool} {H:AHeap} (hn:(Nat.beq xs.length n && Nat.beq ys.length n)=true) (hl:zQ xs ys l=some c) :
  bo H (UD (qY .neq d (some true) (some n) (some l)) (some (.agg xs)) (some (.agg ys)))=some (.val (.bool (!c)) H):=by
 grind [UD,qY,VP,nO,bo]
def sl:List (FuncId × List AV × AV)→X0
 | [],_,_,_=>none
 | x::r,g,b,h=>match Nat.beq g x.1 with
  | true=>(match jP x.2.1 b with | true=>some (x.2.2,h) | false=>sl r g b h)
  | false=>sl r g b h
theorem yt : ∀ {L:List (FuncId × List AV × AV)} {g:FuncId} {h h1:AHeap} {v1:AV},sl L g b h=some (v1,h1)→∃ x,x∈L∧g=x.1∧jP x.2.1 b=true∧v1=x.2.2∧h1=h
 | [],_,_,_,_,e=>by grind [sl]
 | x::r,g,h,h1,v1,e=>by
  unfold sl at e;have next:sl r g b h=some (v1,h1)→∃ y,y∈x::r∧g=y.1∧jP y.2.1 b=true∧v1=y.2.2∧h1=h:=fun e=>
   let ⟨y,k,q⟩:=yt e
   ⟨y,kw _ k,q⟩
  grind [Nat.eq_of_beq_eq_true]
theorem PL {C:Cfg} {L:List (FuncId × List AV × AV)} (hC:C.hook=sl L) (hL : ∀ x,x∈L→bw C.P C.G x.1 x.2.1 x.2.2):um C:=fun g b hp v1 h1 e pl M w vs hg hr hv=>by
 rw [hC] at e;obtain ⟨x,hx,rfl,hl,rfl,rfl⟩:=yt e;rcases hL x hx h1 pl M w vs hg hr (hv.le (ja _ _ hl).1) with ⟨k1,k2⟩ | ⟨cv,w',v2,h2,k1,⟨rfl,rfl⟩,k3⟩
 ·refine .inl ⟨k1,fun cs=>?_⟩;obtain ⟨en,w',fr,⟨cv,v2,h2,e1,⟨rfl,rfl⟩,k3⟩,r⟩:=k2 cs;grind
 ·exact .inr ⟨cv,w',k1,k3⟩
def Wn (v:AV):Option (AV × AHeap)→Bool
 | some (u,_)=>AX v u && Nat.beq u.top 0
 | none=>false
theorem bw.closed {C:Cfg} {k:Nat} (hG:gH C.G) (ev:cw C.P C.G (gE C k)) (ht:aY a=0) (h:Wn v (gE C k f a AHeap.none)=true):bw C.P C.G f a v:=by
 cases hx:gE C k f a AHeap.none with
 | none=>rw [hx] at h;cases h
 | some r=>
  obtain ⟨u,h1⟩:=r;rw [hx] at h;have h:=qx.1 h;exact (uo hG ht (j1 h.2) ((aB.of ev hx).mono fun v1 _ e=>e.1)).lessB h.1
end
end Go.Ev
namespace Go.Ev
open Go
theorem bw.ls0 {P:Program} {G:eg} {f:FuncId} {r:List AV} {v:AV} (h1:bw P G f (.nils::r) v) (h2:bw P G f (.ps [] false::r) v):bw P G f (.ls []::r) v:=fun h=>DA (fun _ _ _ hv=>VRels.first hv fun _ hv=>hv.ls0) (h1 h) (h2 h)
theorem QJ {p:PId} {u:TUnit} (h:cb p u=true):eW p u∈an p u:=by
 unfold eW;rw [h];have:=qw.2 (kz h);grind [gy]
theorem Rw : ∀ (u:TUnit),mZ u=(bB u).flatMap mz:=by
 refine TUnit.ind fun u ih=>?_
 rw [KS,dx,List.flatMap_cons];congr 1;have key : ∀ (l:List TUnit),(∀ k,k∈l→k∈u.kids)→j3 l=(dQ l).flatMap mz:=by
  intro l;induction l with
  | nil=>intro _;rw [CU,fG];rfl
  | cons k r ihr=>grind [ry,bT]
 simp_all
theorem Ns {p:PId} : ∀ (u:TUnit),cb p u=true→al (eW p u)=p:=by
 refine TUnit.ind fun u ih h=>?_
 unfold eW;rw [h];simp only [cond_true];cases hh:gQ p u with
 | true=>rw [ru hh];exact sC hh
 | false=>
  have key : ∀ (r:List TUnit),(∀ k,k∈r→k∈u.kids)→ch p r≠ []→al (gD (ch p r) ((ch p r).length - 1))=p:=by
   intro r;induction r with
   | nil=>grind [j4]
   | cons k r ihr=>grind [mE,eW,iF]
  have k2:=key u.kids fun _ h=>h
  obtain ⟨y,t,e⟩:=uq h;rw [gU,hh] at e ⊢;grind [gD]
theorem Kv {p:PId} : ∀ (u:TUnit),(∃ x,x∈bB u∧al x=p)→cb p u=true:=by
 refine TUnit.ind fun u ih ⟨x,hx,hp⟩=>?_
 cases hh:gQ p u with
 | true=>grind [C1]
 | false=>
  rw [dx] at hx;rcases gx.1 hx with rfl | hx
  ·simp_all [gQ,jy]
  ·have key : ∀ (l:List TUnit),(∀ k,k∈l→k∈u.kids)→x∈dQ l→ch p l≠ []:=by
    intro l;induction l with
    | nil=>grind [fG]
    | cons k r ihr=>grind [bT,cb,mE,iF]
   grind [cb,gU]
theorem Bl {α β:Type} {f:α→β} : ∀ {l:List α},(l.map f).Nodup→∀ {x y:α},x∈l→y∈l→f x=f y→x=y
 | a::l,h,x,y,hx,hy,e=>by
  rw [ic,List.nodup_cons] at h;rcases gx.1 hx with h1 | h1
  ·grind
  ·rcases gx.1 hy with h2 | h2
   ·simp_all
   ·exact Bl h.2 h1 h2 e
theorem BT {K V:Type} {kenc:K→AV} {f:V→AV} : ∀ (l:List (K × V)) (i:Nat),(be kenc f l i).length=l.length
 | [],_=>rfl
 | (k,v)::r,i=>by rw [be,fg,BT r,fg]
theorem Lv (m:List (PId × Bool)):mw [] m=m:=rfl
theorem Ql {n:Nat} (h:0<n):az (Int.ofNat n) 0=false:=by grind [pI]
def BM (p:PId):TUnit→Option TUnit:=fun u=>(bB u).find? (gQ p)
theorem Rs {p:PId} : ∀ (u:TUnit),(cb p u=true→BM p u=some (eW p u))∧(cb p u=false→BM p u=none):=by
 refine TUnit.ind fun u ih=>?_
 unfold BM;rw [dx];cases hh:gQ p u with
 | true=>
  rw [List.find?_cons_of_pos (by omega)];refine ⟨fun h=>?_,fun h=>by grind [C1]⟩;unfold eW;rw [h,ru hh];rfl
 | false=>
  rw [List.find?_cons_of_neg (by simp_all)];have key : ∀ (r:List TUnit),(∀ k,k∈r→k∈u.kids)→(ch p r≠ []→(dQ r).find? (gQ p)=some (gD (ch p r) ((ch p r).length - 1)))∧(ch p r = []→(dQ r).find? (gQ p)=none):=by
   intro r;induction r with
   | nil=>grind [j4,fG]
   | cons k r ihr=>
    intro hm;have ik:=ih k (hm k (og ..));have ir:=ihr fun z hz=>hm z (kw _ hz)
    rw [bT,List.find?_append];cases hk:cb p k with
    | true=>grind [BM,mE,kz,eW]
    | false=>grind [BM,iF]
  have k2:=key u.kids fun _ h=>h
  refine ⟨fun h=>?_,fun h=>?_⟩
  ·obtain ⟨y,t,e⟩:=uq h;unfold eW;rw [h,gU,hh];rw [gU,hh] at e;grind [gD]
  ·have e:=yA h;grind [gU]
theorem gw (p:PId) (u:TUnit):gQ p u=true↔al u=p:=⟨sC,fun h=>by simp_all [gQ,jy]⟩
theorem HD {y x:TUnit} : ∀ (u:TUnit),y∈bB u→x∈bB y→x∈bB u:=by
 refine TUnit.ind fun u ih h hx=>?_
 rw [dx] at h ⊢;rcases gx.1 h with rfl | h
 ·grind [dx]
 ·refine kw _ ?_;have key : ∀ (l:List TUnit),(∀ k,k∈l→k∈u.kids)→y∈dQ l→x∈dQ l:=by
   intro l;induction l with
   | nil=>grind [fG]
   | cons k r ihr=>grind [bT]
  simp_all
theorem iH {y x u:TUnit} (h:y∈bB u) (hx:x∈bB y):x∈bB u:=HD u h hx
theorem Oe {x:TUnit} : ∀ (u:TUnit),x∈bB u→nU x≤nU u:=by
 refine TUnit.ind fun u ih h=>?_
 rw [dx] at h;rcases gx.1 h with rfl | h
 ·omega
 ·have key : ∀ (l:List TUnit),(∀ k,k∈l→k∈u.kids)→x∈dQ l→nU x<nU u:=by
   intro l;induction l with
   | nil=>grind [fG]
   | cons k r ihr=>grind [bT,Nat.lt_of_le_of_lt,fW]
  grind
theorem dD {x u:TUnit} (h:x∈bB u):nU x≤nU u:=Oe u h
section
variable {p : PId} {u w : TUnit} {r : List TUnit}
end
end Go.Ev
namespace Go.Ev
open Go
def fb (a b:PStep):Bool:=az a.kind b.kind && dS a.label b.label
mutual
def An:PItem→PItem→Bool
 | ⟨k,a,t,w,n,u,o,ne,l,f,s,ac,im,d,e,bs⟩,v=>
  (az k v.kind && (az w v.where_ && (az n v.nth_ && (az ac v.act && (az im v.item && az d v.day)))))
  && ((dS l v.label && (dS f v.for_ && (dS e v.event && (az s.kind v.start.kind && (az s.day v.start.day && dS s.event v.start.event)))))
  && ((bv fb a v.at_ && (bv fb t v.to && (bv dS o v.old && bv dS ne v.new)))
  && (y7 u v.unit && BP bs v.by_)))
def BP:List PItem→List PItem→Bool
 | [], []=>true
 | k::r, []=>false
 | k::r,x::s=>An k x && BP r s
 | [],x::s=>false
end
theorem Qi : ∀ (l m:List PItem),BP l m=bv An l m:=by
 intro l;induction l with
 | nil=>intro m;cases m <;> (rw [BP];rfl)
 | cons x l ih=>intro m;cases m with | nil=>rw [BP];rfl | cons y m=>rw [BP,ih];rfl
theorem Tf (u v:PItem):An u v=((az u.kind v.kind && (az u.where_ v.where_ && (az u.nth_ v.nth_ && (az u.act v.act && (az u.item v.item && az u.day v.day)))))
  && ((dS u.label v.label && (dS u.for_ v.for_ && (dS u.event v.event && (az u.start.kind v.start.kind && (az u.start.day v.start.day && dS u.start.event v.start.event)))))
  && ((bv fb u.at_ v.at_ && (bv fb u.to v.to && (bv dS u.old v.old && bv dS u.new v.new)))
  && (y7 u.unit v.unit && bv An u.by_ v.by_)))):=by
 cases u
 rw [An,Qi];rfl
noncomputable def Aa (s:aP):Bool:=aV (ao (.ofNat s.length) 1) && (aV (ao 16 (.ofNat s.length)) && (aV (ao (.ofNat (gD s 0).toNat) 97) && (aV (ao 122 (.ofNat (gD s 0).toNat)) && dS (Lib.trimS s [97,98,99,100,101,102,103,104,105,106,107,108,109,110,111,112,113,114,115,116,117,118,119,120,121,122,48,49,50,51,52,53,54,55,56,57,45]) [])))
def oa (n:Bool) (s:PStart):Bool:=bif az s.kind 0 || az s.kind 2 then az s.day 0 && dS s.event [] else bif az s.kind 1 then (aV (ao s.day 0) && aV (ao 1048576 s.day)) && dS s.event [] else bif az s.kind 3 then az s.day 0 && n else false
end Go.Ev
namespace Go.Ev
open Go
def bQ (s:PStep) (u:TUnit):Bool:=az u.kind s.kind && dS u.label s.label
def eM:List PStep→List TUnit→List TUnit
 | [],l=>l
 | s::r,l=>eM r (l.flatMap fun x=>x.kids.filter (bQ s))
def dV (u:TUnit) (p:List PStep):List TUnit:=bif gO p then (match p with
 | []=> [u]
 | s::r=>eM r (bif mX s then [u] else (bB u).filter (bQ s))) else []
noncomputable def aG (u:TUnit) (p:List PStep):PId × Int:=match dV u p with
 | []=>(cQ,7)
 | [x]=>(al x,0)
 | _=>(cQ,8)
def jY (p:PId) (u:TUnit):Bool:=aV (ao (.ofNat (an p u).length) 2)
noncomputable def Hz (p:PId) (u:TUnit):TUnit:=gD (an p u) ((an p u).length - 2)
noncomputable def qL (p:PId) (u:TUnit):PId:=bif jY p u then al (Hz p u) else cQ
noncomputable def nM (p:PId) (u:TUnit):Int:=bif jY p u then aT (cb p) (Hz p u).kids 0 else -1
def od (p:PId) (u:TUnit):List PId:=(((an p u).take ((an p u).length - 1)).map al).reverse
structure PSpot where
 id:PId
 at_:Int
 deriving Inhabited
noncomputable def fK (s:PSpot):AV:= .agg [.int .i64 s.id.a, .int .i64 s.id.i, .int .i64 s.id.n, .int .i64 s.at_]
def eX:PSpot:=⟨cQ,0⟩
noncomputable def mi (u:TUnit) (p:PId) (n:Int):PSpot × Int:=bif jY p u then (⟨qL p u,nM p u+n⟩,0) else (eX,9)
noncomputable def dj (w:Int) (u:TUnit) (p:PId):PSpot × Int:=bif az w 0 then (⟨p,0⟩,0) else bif az w 1 then (⟨p, .ofNat (eW p u).kids.length⟩,0) else bif az w 2 then mi u p 1 else mi u p 0
def gj (n:Int):Bool:=aV (ao n 0) && aV (ao 3 n)
def cK (act item:Int):List aP→Nat→List PWord
 | [],_=> []
 | s::r,n=>⟨s,act,item, .ofNat n⟩::cK act item r (n+1)
def bW (l:List PWord):List aP:=l.map fun w=>w.text
theorem fH (a i:Int) : ∀ (l:List aP) (n:Nat),(cK a i l n).length=l.length
 | [],_=>rfl
 | s::r,n=>by rw [cK,fg,fH a i r,fg]
mutual
def cT (a i:Int):TUnit→Nat→Nat→TUnit
 | ⟨_,_,_,k,l,h,ws,ks⟩,n,w=>⟨a,i, .ofNat (n+1),k,l,cK a i (bW h) w,cK a i (bW ws) (w+h.length),fZ a i ks (n+1) (w+h.length+ws.length)⟩
def fZ (a i:Int):List TUnit→Nat→Nat→List TUnit
 | [],_,_=> []
 | k::r,n,w=>cT a i k n w::fZ a i r (n+nU k) (w+(mZ k).length)
end
theorem BJ (a i:Int) (u:TUnit) (n w:Nat):cT a i u n w=⟨a,i, .ofNat (n+1),u.kind,u.label,cK a i (bW u.head) w,cK a i (bW u.words) (w+u.head.length),fZ a i u.kids (n+1) (w+u.head.length+u.words.length)⟩:=by cases u;rw [cT];rfl
theorem Ey (a i:Int) (n w:Nat):fZ a i [] n w = []:=by rw [fZ]
theorem Cd (a i:Int) (k:TUnit) (r:List TUnit) (n w:Nat):fZ a i (k::r) n w=cT a i k n w::fZ a i r (n+nU k) (w+(mZ k).length):=by rw [fZ]
def uQ (part:List aP):Nat→List aP→Nat→List Nat
 | 0,_,_=> []
 | f+1,l,i=>bif Nat.ble (i+part.length) l.length then (bif bv dS ((l.drop i).take part.length) part then i::uQ part f l (i+part.length) else uQ part f l (i+1)) else []
def qN (l part:List aP):List Nat:=bif part.isEmpty then [] else uQ part (l.length+1) l 0
end Go.Ev
namespace Go.Ev
open Go Go.RowKit
structure OB (l:Nat) (o:Obj) (pl:Pl) (w:World):Prop where
 at_:w.heap[l]? = some o
 off : ∀ id p,pl id=some p→p.blk≠l
 nc : ∀ c t fr,o≠ .cells c t fr
abbrev XB (l:Nat) (r:Loop) (pl:Pl) (w:World):Prop:=OB l (.loop r) pl w
section
variable {P : Program} {G : eg} {N : Nat} {h0 h h' : AHeap} {pl0 pl pl' : Pl} {M0 M M' : dz} {w0 w w' : World} {l : Nat} {r : Loop} {a : Act} {s : St} {b : Option Nat}
theorem ct.belowW (hr:ct pl M h w) (hb:Below w.heap.size w w'):ct pl M h w':=
 ⟨hr.dom,fun id p o h1 h2=>by rw [hb.block _ (hr.blk id p h1)];exact hr.obj id p o h1 h2,fun id p h1=>ur (hr.blk id p h1) hb.size,hr.inj,
  fun b c h1=>by rw [hb.block _ (hr.memLt h1)];exact hr.imm b c h1,hr.sep⟩
theorem cW.belowW (hb:Below w.heap.size w w') (hd:w.drawn≤w'.drawn):cW h pl M w h pl M w':=⟨lg.refl _,fun _ _ h=>h,fun _ _ h=>h,hb.size,fun b h1 _=>hb.block b h1,fun id p h=> .inl ⟨p,h,rfl⟩,fun _ _ _ h=>h,fun _ _ h _=>h,fun _ _ h=> .inl h,hb.os,hb.tape,hb.output,hd⟩
variable {o : Obj}
theorem OB.lt (x:OB l o pl w):l<w.heap.size:=(rf.1 x.at_).1
theorem OB.step (x:OB l o pl w) (hs:cW h pl M w h' pl' M' w'):OB l o pl' w':=
 ⟨(hs.kept l x.lt fun id p hp _=>x.off id p hp).trans x.at_,fun id p' hp'=>by
  have:=x.lt;rcases hs.blks id p' hp' with ⟨p,h1,h2⟩ | h1
  all_goals grind [cases OB],x.nc⟩
theorem OB.put (x:OB l o pl w) (o':Obj) (hn : ∀ c t fr,o'≠ .cells c t fr):OB l o' pl (w.putObj l o'):=⟨World.putObj_heap_same x.lt,x.off,hn⟩
theorem OB.other (x:OB l o pl w) {k:Nat} (hk:l≠k) (o':Obj):OB l o pl (w.putObj k o'):=⟨(World.putObj_heap_other hk).trans x.at_,x.off,x.nc⟩
theorem qX (hr:ct pl M h w) (x:OB l o pl w) (o':Obj):ct pl M h (w.putObj l o'):=
 ⟨hr.dom,fun id p o2 h1 h2=>by rw [World.putObj_heap_other (x.off id p h1)];exact hr.obj id p o2 h1 h2,fun id p h1=>by rw [World.putObj_size];exact hr.blk id p h1,hr.inj,
  fun b c h1=>by
   obtain ⟨t,fr,e⟩:=hr.imm b c h1;have hb:b≠l:=fun eb=>by rw [eb,x.at_] at e;cases e;exact x.nc _ _ _ rfl
   grind [World.putObj_heap_other],hr.sep⟩
theorem cW.swap (x:XB l r pl w) {o1:Obj} (hs:cW h pl M (w.putObj l o1) h' pl' M' w'):cW h pl M w h' pl' M' (w'.putObj l (.loop r)):=by
 have hsz:w.heap.size≤w'.heap.size:=by have:=hs.size;simp_all
 refine ⟨hs.ext,hs.new,hs.mem,by simp_all,fun b hb hk=>?_,fun id p' hp=>?_,hs.live,hs.stay,fun b c hm=>?_,hs.os,hs.tape,hs.out,hs.drawn⟩
 ·by_cases e:b=l
  ·rw [e,World.putObj_heap_same (ur x.lt hsz)];exact x.at_.symm
  ·rw [World.putObj_heap_other e,hs.kept b (by simp_all) hk,World.putObj_heap_other e]
 ·have:=hs.blks id p' hp;simp_all
 ·have:=hs.memNew b c hm;simp_all
theorem tU (hs:cW h pl M w h' pl' M' w') (hl:w.heap.size≤l) (o:Obj):cW h pl M w h' pl' M' (w'.putObj l o):=⟨hs.ext,hs.new,hs.mem,by rw [World.putObj_size];exact hs.size,fun b hb hk=>by rw [World.putObj_heap_other (by omega)];exact hs.kept b hb hk,hs.blks,hs.live,hs.stay,hs.memNew,hs.os,hs.tape,hs.out,hs.drawn⟩
abbrev DR (ro:Option Nat):Fence:= { Fence.wide with round:=ro }
theorem EI {ops:Array Oper} {ro:Option Nat} {n:Nat} {ds:List Deferred} {Q Q':Exit→Act→World→Prop} (hd : ∀ o∈ops,∀ c,o.op≠ .defer c) (hno : ∀ a w,¬ Q .outgrown a w) (hp : ∀ c a w,¬ Q (.panic c) a w)
  (hQ : ∀ a w,Q .normal a w→Q' .normal { a with defers:=a.defers++ds } w) :
  ∀ (idx:List Nat) (a:Act) (w:World),wpOps P ops Q idx a w→wpOpsIn (DR ro) n P ops Q' idx { a with defers:=a.defers++ds } w
 | [],a,w,h=>hQ a w h
 | i::rest,a,w,h=>by
  have hput : ∀ (a:Act) (dst:Option Tmp) (v:Value),({ a with defers:=a.defers++ds } : Act).put dst v = { (a.put dst v) with defers:=(a.put dst v).defers++ds }:=fun a dst v=>by cases dst <;> rfl
  have hev:({ a with defers:=a.defers++ds } : Act).eval=a.eval:=funext fun x=>by cases x <;> rfl
  have ih:=EI (n:=n) (ro:=ro) hd hno hp hQ rest;unfold wpOps at h;unfold wpOpsIn;split at h
  ·simp_all
  ·rename_i o he;simp only [he];split at h
   ·rename_i hw;rw [if_pos (by omega)];have h:o.wp P a w (wpOps P ops Q rest) Q:=by
     rcases h with h | ⟨_,a1,w1,h⟩
     all_goals simp_all
    refine ⟨fun _ _=>trivial,?_⟩;rw [Oper.semAt_eq _ _ _ (hd o (Array.mem_of_getElem? he)),hev];unfold Oper.wp at h;generalize hr:(execOp a.eval o).run P w=res at h ⊢;cases res with
    | ok nx w'=>
     cases nx with
     | value v=>show wpOpsIn _ _ _ _ _ _ _ _;rw [hput];exact ih _ _ h
     | skip=>show wpOpsIn _ _ _ _ _ _ _ _;rw [hput];exact ih _ _ h
     | defer d=>
      show wpOpsIn _ _ _ _ _ _ _ _
      have:=ih _ _ h;rw [← hput] at this;simp_all
     | enter f args=>
      refine ⟨fun e=>(by grind [Fence.wide]),(callsIn_wide (n:=n - 1)).2 (Calls.mono h fun e w2 h2=>?_)⟩;cases e with
      | returned v=>simp_all
      | panicked c=>simp_all
      | outgrown=>obtain ⟨a1,w1,h2⟩:=h2;simp_all
     | row rw args=>
      refine ⟨fun e=>(by grind [Fence.wide]),fun c cs _=>?_⟩;obtain ⟨v,w2,k1,k2⟩:=h c cs;exact ⟨v,w2,(by simp_all),stepsIn_wide.2 k2⟩
     | _=>exact h.elim
    | halt x w'=>cases x <;> first | exact h.elim | exact absurd h (hp _ _ _)
   ·rename_i hw;rw [if_neg (by omega)];refine ⟨fun _ _=>trivial,?_⟩;simp_all
theorem xF {ops:Array Oper} {ro:Option Nat} {n id:Nat} {ds:List Deferred} {Φ:St→Prop} {Q':Exit→Act→World→Prop} (hd : ∀ o∈ops,∀ c,o.op≠ .defer c) (h:b6 P G b ops ops.toList s Φ) (hb:tq b h0 pl0)
  (hs:SNow G N h0 pl0 M0 w0 s a w) (hQ : ∀ s' a1 w1,Φ s'→SNow G N h0 pl0 M0 w0 s' a1 w1→Q' .normal { a1 with defers:=ds } w1):(Code.region id ops false).wpIn (DR ro) n P Q' { a with defers:=ds } w:=by
 refine wpIn_region ?_;have k:=h 0 N h0 pl0 M0 w0 a w (fun e a1 w1=>e = .normal∧∃ s',Φ s'∧SNow G N h0 pl0 M0 w0 s' a1 w1) hb (fun j=>by simp) hs fun s' a1 w1 h1 h2=>⟨rfl,s',h1,h2⟩
 obtain ⟨_,_,_,_,g3,_,_⟩:=hs.ex;have e:({ a with defers:=ds } : Act) = { a with defers:=a.defers++ds }:=by rw [g3.defers];rfl
 rw [e,List.range_eq_range'];have hlen:ops.size=ops.toList.length:=by simp
 rw [hlen];refine EI hd (fun _ _ h=>(by grind)) (fun _ _ _ h=>(by grind)) (fun a1 w1 h1=>?_) _ a w k;obtain ⟨_,s',h1,h2⟩:=h1;grind [cases SNow,cases FrRel]
theorem OE {ops:Array Oper} {ro:Option Nat} {n i:Nat} {rest:List Nat} {o:Oper} {v:AV} {h1:AHeap} {A':Fr} {Q:Exit→Act→World→Prop} (ho:ops[i]? = some o) (hg:o.guard=none) (hd : ∀ c,o.op≠ .defer c) (hs:SNow G N h0 pl0 M0 w0 s a w)
  (e:(eG P G o.op).run s.tmps s.heap=some (.val v h1)) (e2:gY s.tmps o.dst v=some A')
  (K : ∀ a1 w1,SNow G N h0 pl0 M0 w0 ⟨A',h1⟩ a1 w1→wpOpsIn (DR ro) n P ops Q rest a1 w1):wpOpsIn (DR ro) n P ops Q (i::rest) a w:=by
 obtain ⟨pl,M,g1,g2,g3,g4,g5⟩:=hs.ex;obtain ⟨dst,op,ty,pos,after,guard⟩:=o;simp only at hg e e2 hd;obtain ⟨pl',M',cv,w',nx,q1,q2,q3,q4,q5,q6⟩:=tT (P:=P) (G:=G) op pl M s.tmps s.heap v h1 a w dst ty pos after guard g1 g2 g3 e;have key:SNow G N h0 pl0 M0 w0 ⟨A',h1⟩ (a.put dst cv) w':=by
  obtain ⟨p1,p2⟩:=iG (g3.mono q5.ext q5.mem) q3 (by rw [hs.n];exact hs.small) e2;exact ⟨⟨pl',M',g1.mono q5.ext q5.mem,q4,p1,g4.trans q5 g5,bL g5 q6⟩,by rw [← hs.n];omega,hs.small⟩
 unfold wpOpsIn;simp only [ho];rw [if_pos (by subst hg;rfl)];refine ⟨fun _ _=>trivial,?_⟩;rw [Oper.semAt_eq _ _ _ hd,q1];rcases q2 with rfl | ⟨rfl,rfl⟩
 ·exact K _ _ key
 ·exact K _ _ key
theorem DM {n:Nat} (g1:nb G pl M) (g2:ct pl M h w) (x:XB l r pl w) (hrd:r.state = .ready) (hpe:r.pending=none) {AR AR1:Fr} (hfr:FrRel pl M AR ⟨r.tmps, []⟩) (hsm:AR.n≤60000)
  {kv:AV} {cv:Value} (hk:VRel pl M kv cv) {t:Tmp} (hpar:r.params = #[t]) (hput:AR.put t kv=some AR1) {id1 id2 bl:Nat} {ops1 ops2:Array Oper} (ha:r.assign = .region id1 ops1 false) (hbo:r.body = .block bl (.region id2 ops2 false))
  (d1 : ∀ o∈ops1,∀ c,o.op≠ .defer c) (d2 : ∀ o∈ops2,∀ c,o.op≠ .defer c) {s1 s2:St} (p1:b6 P G (some h.n) ops1 ops1.toList ⟨AR1,h⟩ (fun s=>s=s1)) (p2:b6 P G (some s1.heap.n) ops2 ops2.toList s1 (fun s=>s=s2)) :
  ∃ tmps,(Instr.yield l #[cv]).run P w = .ok (.round l r.fn tmps r.assign r.body) w∧RoundIn Fence.wide n P l r.fn tmps r.assign r.body w fun e w'=>e = .returned (.bool true)∧
   ∃ pl' M',nb G pl' M'∧ct pl' M' s2.heap w'∧cW h pl M w s2.heap pl' M' w'∧h.n≤s2.heap.n:=by
 refine ⟨(Act.put ⟨r.tmps, []⟩ (some t) cv).tmps,by rw [run_yield x.at_ (by simp_all),hpar];simp [Act.put],roundIn_of_wpIn trivial ?_⟩;obtain ⟨hf1,hn1⟩:=iG (dst:=some t) hfr hk hsm hput;have hs:SNow G AR.n h pl M w ⟨AR1,h⟩ ⟨(Act.put ⟨r.tmps, []⟩ (some t) cv).tmps, []⟩ w:=⟨⟨pl,M,g1,g2,hf1,cW.refl _ _ _ _,ar _⟩,hn1,hsm⟩
 have hb1:tq (some h.n) h pl:=fun m hb=>by cases hb;exact ⟨rfl,fun id p hq=>g2.dom id p hq⟩
 rw [ha];refine xF (ro:=some l) (ds:= []) d1 p1 hb1 hs fun s' a1 w1 e1 hs1=>?_
 subst e1;obtain ⟨pl1,M1,k1,k2,k3,k4,k5⟩:=hs1.ex;have x1:=x.step k4;refine ⟨_,run_beginRound x1.at_ hrd,?_⟩;have x2:=x1.put (.loop { r with state:= .busy }) (fun _ _ _ e=>by grind);have hs2:SNow G AR.n s'.heap pl1 M1 (w1.putObj l (.loop { r with state:= .busy })) s' a1 (w1.putObj l (.loop { r with state:= .busy })):=⟨⟨pl1,M1,k1,qX k2 x1 _,k3,cW.refl _ _ _ _,ar _⟩,hs1.n,hs1.small⟩
 have hb2:tq (some s'.heap.n) s'.heap pl1:=fun m hb=>by cases hb;exact ⟨rfl,fun id p hq=>k2.dom id p hq⟩
 rw [show ∀ F n Q a w,r.body.wpIn F n P Q a w=(Code.block bl (.region id2 ops2 false)).wpIn F n P Q a w from fun _ _ _ _ _=>by grind];refine wpIn_block (xF (ro:=some l) (ds:= []) d2 p2 hb2 hs2 fun s3 a3 w3 e3 hs3=>?_);subst e3;obtain ⟨pl3,M3,m1,m2,m3,m4,m5⟩:=hs3.ex;have x3:=x2.step m4;refine ⟨_,_,run_endRound none x3.at_,rfl,pl3,M3,m1,qX m2 x3 _,?_,bL k5 m5⟩;have e:({ { r with state:= .busy } with state:=if (none:Option Code).isNone then .ready else .done,pending:=none } : Loop)=r:=by cases r;simp_all
 rw [e];exact k4.trans (cW.swap x1 m4) k5
theorem Na {ops:Array Oper} {n i:Nat} {rest:List Nat} {o:Oper} {A':Fr} {Q:Exit→Act→World→Prop} {tf tx:Tmp} {ts:Array TypeId} (ho:ops[i]? = some o) (hg:o.guard=none) (hop:o.op = .call { callee:= .value (.tmp tf),args:=#[.tmp tx],argTypes:=ts })
  (hs:SNow G N h0 pl0 M0 w0 s a w) (x0:XB l r pl0 w0) (hrd:r.state = .ready) (hpe:r.pending=none) {AR AR1:Fr} (hfr:FrRel pl0 M0 AR ⟨r.tmps, []⟩) (hsm:AR.n≤60000)
  {kv:AV} (hf:s.tmps.get tf=some (.func (.yield l) [] [])) (hx:s.tmps.get tx=some kv) {t:Tmp} (hpar:r.params = #[t]) (hput:AR.put t kv=some AR1) {id1 id2 bl:Nat} {ops1 ops2:Array Oper} (ha:r.assign = .region id1 ops1 false) (hbo:r.body = .block bl (.region id2 ops2 false))
  (d1 : ∀ o∈ops1,∀ c,o.op≠ .defer c) (d2 : ∀ o∈ops2,∀ c,o.op≠ .defer c) {s1 s2:St} (p1:b6 P G (some s.heap.n) ops1 ops1.toList ⟨AR1,s.heap⟩ (fun s=>s=s1)) (p2:b6 P G (some s1.heap.n) ops2 ops2.toList s1 (fun s=>s=s2))
  (e2:gY s.tmps o.dst (.bool true)=some A') (K : ∀ a1 w1,SNow G N h0 pl0 M0 w0 ⟨A',s2.heap⟩ a1 w1→wpOpsIn Fence.wide n P ops Q rest a1 w1):wpOpsIn Fence.wide n P ops Q (i::rest) a w:=by
 obtain ⟨pl,M,g1,g2,g3,g4,g5⟩:=hs.ex;have hvx:=(g3.at_ tx kv hx).2;have hvf:=(g3.at_ tf _ hf).2;obtain ⟨tmps,y1,y2⟩:=DM (n:=n - 1) g1 g2 (x0.step g4) hrd hpe (hfr.mono g4.ext g4.mem) hsm hvx hpar hput ha hbo d1 d2 p1 p2;unfold wpOpsIn;simp only [ho];rw [if_pos (by grind [Region.wanted])];refine ⟨fun _ _=>trivial,?_⟩;rw [Oper.semAt_eq _ _ _ (fun c hc=>by grind)];have hev:a.eval (.tmp tf) = .func (.yield l) #[] #[]:=by
  show a.tmps.getD tf undef=_
  grind [cases VRel]
 have hrun:(execOp a.eval o).run P w = .ok (.round l r.fn tmps r.assign r.body) w:=by grind [execOp,resolve,Deferred.ofValue,invoke,Act.eval]
 rw [hrun];refine ⟨fun e=>(by grind [Fence.wide]),y2.mono fun e w' h=>?_⟩;obtain ⟨rfl,pl',M',k1,k2,k3,k4⟩:=h;obtain ⟨q1,q2⟩:=iG (g3.mono k3.ext k3.mem) (VRel.bool true) (by rw [hs.n];exact hs.small) e2;exact K _ _ ⟨⟨pl',M',k1,k2,q1,g4.trans k3 g5,bL g5 k4⟩,by rw [← hs.n];omega,hs.small⟩
def bi (P:Program) (G:eg) (B:AHeap→Pl→dz→World→Prop) (c:Code) (s:St) (Φ:AExit→St→Prop):Prop:=
 ∀ (N:Nat) (h0:AHeap) (pl0:Pl) (M0:dz) (w0:World) (a:Act) (w:World) (Q:Exit→Act→World→Prop),B h0 pl0 M0 w0→SNow G N h0 pl0 M0 w0 s a w→
  (∀ e s' a1 w1,Φ e s'→SNow G N h0 pl0 M0 w0 s' a1 w1→Q (nr e) a1 w1)→c.wp P Q a w
variable {B : AHeap → Pl → dz → World → Prop} {c d : Code} {Φ : AExit → St → Prop}
theorem bi.of (hB : ∀ h0 pl0 M0 w0,B h0 pl0 M0 w0→tq b h0 pl0) (h:am P G b c s Φ):bi P G B c s Φ:=fun N h0 pl0 M0 w0 a w Q hb hs hQ=>h N h0 pl0 M0 w0 a w Q (hB _ _ _ _ hb) hs hQ
theorem bi.weak {s':St} (hB : ∀ h0 pl0 M0 w0,B h0 pl0 M0 w0→tq b h0 pl0) (hW:cX G b s s') (h:bi P G B c s' Φ):bi P G B c s Φ:=fun N h0 pl0 M0 w0 a w Q hb hs hQ=>h N h0 pl0 M0 w0 a w Q hb (hW _ _ _ _ _ _ _ (hB _ _ _ _ hb) hs) hQ
def XR (P:Program) (G:eg) (B:AHeap→Pl→dz→World→Prop) (d:Code) (Φ:AExit→St→Prop):AExit→St→Prop
 | .normal,s=>bi P G B d s Φ
 | e,s=>Φ e s
theorem bi.skip (h:Φ .normal s):bi P G B .skip s Φ:=fun _ _ _ _ _ a w _ _ hs hQ=>wp_skip (hQ .normal s a w h hs)
theorem bi.exit {id:Nat} (h:Φ (.exit id) s):bi P G B (.exit id) s Φ:=fun _ _ _ _ _ a w _ _ hs hQ=>wp_exit (hQ (.exit id) s a w h hs)
theorem bi.seq (h:bi P G B c s (XR P G B d Φ)):bi P G B (.seq c d) s Φ:=by
 intro N h0 pl0 M0 w0 a w Q hb hs hQ;refine wp_seq (h N h0 pl0 M0 w0 a w _ hb hs fun e s' a1 w1 h1 h2=>?_);cases e with
 | normal=>exact h1 N h0 pl0 M0 w0 a1 w1 Q hb h2 hQ
 | exit id=>exact hQ (.exit id) s' a1 w1 h1 h2
 | ret=>exact hQ .ret s' a1 w1 h1 h2
theorem bi.cond {x:Operand} {t:Bool} (hx:(cG G x).run s.tmps=some (.bool t)) (h1:t=true→bi P G B c s Φ) (h2:t=false→bi P G B d s Φ):bi P G B (.cond x c d) s Φ:=by
 intro N h0 pl0 M0 w0 a w Q hb hs hQ;obtain ⟨pl,M,g1,g2,g3,g4,g5⟩:=hs.ex;have hv:=bV g1 g3 hx;generalize hq:a.eval x=y at hv;cases hv
 cases t
 ·exact wp_cond_false hq (h2 rfl N h0 pl0 M0 w0 a w Q hb hs hQ)
 ·exact wp_cond_true hq (h1 rfl N h0 pl0 M0 w0 a w Q hb hs hQ)
theorem bi.block {id:Nat} (h:bi P G B c s (I7 id Φ)):bi P G B (.block id c) s Φ:=by
 intro N h0 pl0 M0 w0 a w Q hb hs hQ;refine wp_block (h N h0 pl0 M0 w0 a w _ hb hs fun e s' a1 w1 h1 h2=>?_);cases e with
 | normal=>exact hQ .normal s' a1 w1 h1 h2
 | ret=>exact hQ .ret s' a1 w1 h1 h2
 | exit k=>
  by_cases hk:k=id
  ·simp only [I7,hk,if_true] at h1;simp only [nr,Exit.inBlock,hk,if_true];exact hQ .normal s' a1 w1 h1 h2
  ·simp only [I7,hk,if_false] at h1;simp only [nr,Exit.inBlock,hk,if_false];exact hQ (.exit k) s' a1 w1 h1 h2
theorem bi.loop (I:Nat→St→Prop) (n:Nat) (h0:I n s) (hI : ∀ n s,I n s→bi P G B c s (UA n I Φ)):bi P G B (.loop c) s Φ:=by
 intro N hp0 pl0 M0 w0 a w Q hb hs hQ;have key : ∀ (n m:Nat) (s:St) (a:Act) (w:World),n<m→I n s→SNow G N hp0 pl0 M0 w0 s a w→Code.rounds P c Q m a w:=by
  intro n;induction n using Nat.strongRecOn with
  | _ n ih=>
   intro m s a w hm hi hs;cases m with
   | zero=>omega
   | succ m=>
    rw [rounds_succ];refine hI n s hi N hp0 pl0 M0 w0 a w _ hb hs fun e s' a1 w1 h1 h2=>?_
    cases e with
    | normal=>
     obtain ⟨k,hk,hi'⟩:=h1;exact ih k hk m s' a1 w1 (by omega) hi' h2
    | exit id=>exact hQ (.exit id) s' a1 w1 h1 h2
    | ret=>exact hQ .ret s' a1 w1 h1 h2
 exact wp_loop_rounds (n+1) (key n (n+1) s a w (Nat.lt_succ_self n) h0 hs)
def YB (m l:Nat) (r:Loop) (AR:Fr) (h0:AHeap) (pl0:Pl) (M0:dz) (w0:World):Prop:=tq (some m) h0 pl0∧XB l r pl0 w0∧FrRel pl0 M0 AR ⟨r.tmps, []⟩
theorem rn {m id3:Nat} {o0 o1 o2 o3:Oper} {AR AR1 A0 A1 A2 A3:Fr} (hrd:r.state = .ready) (hpe:r.pending=none) (hsm:AR.n≤60000)
  {v0 v1 v3:AV} {tf tx t:Tmp} {ts:Array TypeId} {kv:AV} (g0:o0.guard=none) (g1:o1.guard=none) (g2:o2.guard=none) (g3:o3.guard=none) (n0 : ∀ c,o0.op≠ .defer c) (n1 : ∀ c,o1.op≠ .defer c) (n3 : ∀ c,o3.op≠ .defer c)
  (e0:(eG P G o0.op).run s.tmps s.heap=some (.val v0 s.heap)) (q0:gY s.tmps o0.dst v0=some A0) (e1:(eG P G o1.op).run A0 s.heap=some (.val v1 s.heap)) (q1:gY A0 o1.dst v1=some A1)
  (hop:o2.op = .call { callee:= .value (.tmp tf),args:=#[.tmp tx],argTypes:=ts }) (hf:A1.get tf=some (.func (.yield l) [] [])) (hx:A1.get tx=some kv) (hpar:r.params = #[t]) (hput:AR.put t kv=some AR1) {id1 id2 bl:Nat} {ops1 ops2:Array Oper}
  (ha:r.assign = .region id1 ops1 false) (hbo:r.body = .block bl (.region id2 ops2 false)) (d1 : ∀ o∈ops1,∀ c,o.op≠ .defer c) (d2 : ∀ o∈ops2,∀ c,o.op≠ .defer c) {s1 s2:St} (p1:b6 P G (some s.heap.n) ops1 ops1.toList ⟨AR1,s.heap⟩ (fun s=>s=s1))
  (p2:b6 P G (some s1.heap.n) ops2 ops2.toList s1 (fun s=>s=s2)) (q2:gY A1 o2.dst (.bool true)=some A2) (e3:(eG P G o3.op).run A2 s2.heap=some (.val v3 s2.heap)) (q3:gY A2 o3.dst v3=some A3)
  (hΦ:Φ .normal ⟨A3,s2.heap⟩):bi P G (YB m l r AR) (.region id3 #[o0,o1,o2,o3] false) s Φ:=by
 intro N h0 pl0 M0 w0 a w Q hb hs hQ;obtain ⟨_,x0,hfr⟩:=hb;refine (wpIn_wide (n:=1)).1 (wpIn_region ?_);show wpOpsIn (DR none) 1 P _ Q [0,1,2,3] a w
 refine OE rfl g0 n0 hs e0 q0 fun a1 w1 hs1=>?_
 refine OE rfl g1 n1 hs1 e1 q1 fun a2 w2 hs2=>?_
 refine Na rfl g2 hop hs2 x0 hrd hpe hfr hsm hf hx hpar hput ha hbo d1 d2 p1 p2 q2 fun a3 w3 hs3=>?_
 refine OE (ro:=none) rfl g3 n3 hs3 e3 q3 fun a4 w4 hs4=>?_
 exact hQ .normal _ a4 w4 hΦ hs4
theorem Dt {f g:FuncId} {fn fk:Func} {args caps:List AV} {hB:AHeap} {AR:Fr} {sA:St} {c0 c1 ck asg body:Code} {tg tp:Tmp} {bl id4:Nat} {ops4:Array Oper} {Ψ:AV→AHeap→Prop} {ΨK:AHeap→Prop} (pol:Nat)
  (hf : P.funcs[f]? = some fn) (hN : (fn.name == "runtime.NumGoroutine") = false) (hbd : fn.body = some (.seq c0 (.seq (.seq c1 (.block bl (.rangeFunc (.tmp tg) #[tp] asg body))) (.seq (.region id4 ops4 false) .ret)))) (hn : Nat.ble args.length fn.ntmps = true ∧ Nat.ble fn.ntmps 60000 = true)
  (hk : P.funcs[g]? = some fk) (hkN : (fk.name == "runtime.NumGoroutine") = false) (hkb : fk.body = some ck) (hkn : Nat.ble (caps.length + 1) fk.ntmps = true ∧ Nat.ble fk.ntmps 60000 = true) (hkr : fk.results = #[])
  (hc0:am P G (some h.n) c0 ⟨⟨fn.ntmps,eS fn.ntmps args 0 .nil⟩,h⟩ (fun e s=>e = .normal∧s=sA)) (hc1:am P G (some h.n) c1 sA (fun e s=>e = .normal∧s=⟨AR,hB⟩))
  (hgv:AR.get tg=some (.func (.func g) [] caps))
  (hK : ∀ (l:Nat) (r:Loop),r.state = .ready→r.pending=none→r.params = #[tp]→r.assign=asg→r.body=body→bi P G (YB hB.n l r AR) ck ⟨⟨fk.ntmps,eS fk.ntmps (.func (.yield l) [] []::caps) 0 .nil⟩,hB⟩ (fun e s=>(∀ id,e≠ .exit id)∧∃ s',cX G (some hB.n) s s'∧ΨK s'.heap))
  (d4 : ∀ o∈ops4,∀ c,o.op≠ .defer c)
  (h4 : ∀ hK,ΨK hK→∃ s4,b6 P G (some hK.n) ops4 ops4.toList ⟨AR,hK⟩ (fun s=>s=s4)∧∃ s5,cX G (some h.n) s4 s5∧∃ v,ee (ei P fn.results.toList s5.tmps s5.heap)=some v∧Ψ (dM pol h.n v s5.heap).1 (dM pol h.n v s5.heap).2) :
  aB P G f args h Ψ:=by
 intro pl M w vs hg hr hv;simp only [bd,decide_eq_true_eq] at hn hkn;simp only [beq_eq_false_iff_ne,ne_eq] at hN hkN;left;refine ⟨by simp_all [callFunc],(callsIn_wide (n:=1)).1 (callsIn_of_wp_marks hf hbd trivial ?_)⟩;have hs0:SNow G fn.ntmps h pl M w ⟨⟨fn.ntmps,eS fn.ntmps args 0 .nil⟩,h⟩ { tmps:=vs++Array.replicate (fn.ntmps - vs.size) undef,defers:= [] } w:=⟨⟨pl,M,hg,hr,oT hv hn.1 hn.2,cW.refl _ _ _ _,ar _⟩,rfl,hn.2⟩
 have hbase:tq (some h.n) h pl:=fun m hb=>by cases hb;exact ⟨rfl,fun id p hq=>hr.dom id p hq⟩
 refine wpIn_seq (wpIn_wide.2 (hc0 fn.ntmps h pl M w _ w _ hbase hs0 fun e s1 a1 w1 h1 hs1=>?_));obtain ⟨rfl,rfl⟩:=h1;refine wpIn_seq (wpIn_seq (wpIn_wide.2 (hc1 _ _ _ _ _ a1 w1 _ hbase hs1 fun e s2 a2 w2 h2 hs2=>?_)));obtain ⟨rfl,rfl⟩:=h2;obtain ⟨pl2,M2,k1,k2,k3,k4,k5⟩:=hs2.ex;have hdef:=k3.defers;have hvg:=(k3.at_ tg _ hgv).2;obtain ⟨lb,hlb,hcl,hca⟩ : ∃ lb:Array Value,a2.eval (.tmp tg) = .func (.func g) #[] lb∧caps.length=lb.size∧∀ j y,caps[j]? = some y→VRel pl2 M2 y (lb.getD j undef):=by
  show ∃ lb:Array Value,a2.tmps.getD tg undef=_∧_
  generalize a2.tmps.getD tg undef=y at hvg;cases hvg with
  | func q1 q2 q3 q4=>grind
 refine wpIn_block (wpIn_rangeFunc fun fnm _=>?_);obtain ⟨r,er⟩ : ∃ r:Loop,r = { state:= .ready,pending:=none,fn:=fnm,tmps:=a2.tmps,params:=#[tp],assign:=asg,body:=body,defers:=w2.heap.size }:=⟨_,rfl⟩
 obtain ⟨w3,ew3⟩ : ∃ w3,w3=(w2.alloc (.deferred (some []))).alloc (.loop r):=⟨_,rfl⟩
 have hb3:Below w2.heap.size w2 w3:=by rw [ew3];exact ((Below.refl _ w2).alloc (ar _) _).alloc (by simp) _
 have hD3:OB w2.heap.size (.deferred (some [])) pl2 w3:=⟨by grind [Below.heap_alloc,World.alloc_heap_new],fun id p hp=>by have:=k2.blk id p hp;omega,fun _ _ _ e=>by grind⟩
 have hx3:XB (w2.heap.size+1) r pl2 w3:=⟨by grind [World.alloc_heap_new,World.size_alloc],fun id p hp=>by have:=k2.blk id p hp;omega,fun _ _ _ e=>by grind⟩
 have hr3:ct pl2 M2 hB w3:=k2.belowW hb3;have hdr:w2.drawn≤w3.drawn:=by simp_all
 have hst3:cW hB pl2 M2 w2 hB pl2 M2 w3:=cW.belowW hb3 hdr;refine ⟨w2.heap.size+1, [{ target:= .collected w2.heap.size,args:=#[] }],w3, { target:= .fn (.func g) lb,args:=#[.func (.yield (w2.heap.size+1)) #[] #[]] },w3,g,#[.func (.yield (w2.heap.size+1)) #[] #[]]++lb,w3,?_,?_,fun _ _=>trivial,?_,fun e=>(by omega),callsIn_wide.2 (calls_of_wp hk hkb ?_)⟩
 ·simp_all [run_enterLoop_outer]
 ·simp_all [resolve,Deferred.ofValue,Act.eval]
 ·simp_all [invoke,callFunc]
 ·have hva:VRels pl2 M2 (.func (.yield (w2.heap.size+1)) [] []::caps) (#[.func (.yield (w2.heap.size+1)) #[] #[]]++lb):=by
   refine ⟨by grind,fun j y hj=>?_⟩
   match j,hj with
   | 0,hj=>
    simp at hj;subst hj;have f0:VRel pl2 M2 (.func (.yield (w2.heap.size+1)) [] []) (.func (.yield (w2.heap.size+1)) #[] #[]):=@VRel.func pl2 M2 _ [] [] #[] #[] rfl rfl (fun j y h=>by simp_all) (fun j y h=>by simp_all);have e0:(#[Value.func (.yield (w2.heap.size+1)) #[] #[]]++lb).getD 0 undef = .func (.yield (w2.heap.size+1)) #[] #[]:=by simp [gV,Array.getElem?_append]
    simp_all
   | j+1,hj=>simp_all [Array.getElem?_append_right]
  have hlen:(AV.func (.yield (w2.heap.size+1)) [] []::caps).length≤fk.ntmps:=by simp_all
  have hsK:SNow G fk.ntmps hB pl2 M2 w3 ⟨⟨fk.ntmps,eS fk.ntmps (.func (.yield (w2.heap.size+1)) [] []::caps) 0 .nil⟩,hB⟩ { tmps:=(#[.func (.yield (w2.heap.size+1)) #[] #[]]++lb)++Array.replicate (fk.ntmps - (#[Value.func (.yield (w2.heap.size+1)) #[] #[]]++lb).size) undef,defers:= [] } w3:=⟨⟨pl2,M2,k1,hr3,oT hva hlen hkn.2,cW.refl _ _ _ _,ar _⟩,rfl,hkn.2⟩
  have hbK:tq (some hB.n) hB pl2:=fun m hb=>by cases hb;exact ⟨rfl,fun id p hq=>k2.dom id p hq⟩
  have hAR:FrRel pl2 M2 AR ⟨r.tmps, []⟩:=by rw [er];exact ⟨k3.size,rfl,k3.at_⟩
  refine hK (w2.heap.size+1) r (by grind) (by grind) (by grind) (by grind) (by grind) fk.ntmps hB pl2 M2 w3 _ w3 _ ⟨hbK,hx3,hAR⟩ hsK fun e s4 a4 w4 q4 hs4=>?_
  obtain ⟨hne,s4',hW4,hΨ4⟩:=q4;have hs4:=hW4 _ _ _ _ _ _ _ hbK hs4;obtain ⟨pl4,M4,m1,m2,m3,m4,m5⟩:=hs4.ex;have x4:=hx3.step m4;have y4:=hD3.step m4;have hres:(results fk a4.tmps).run P w4 = .ok (.tuple #[]) w4:=by rw [xD,hkr,Sem.run_bind,Array.mapM_eq_mapM_toList,Sem.run_map];rfl
  obtain ⟨w5,ew5⟩ : ∃ w5,w5=w4.putObj (w2.heap.size+1) (.loop { r with state:= .exhausted }):=⟨_,rfl⟩
  have hend:(Instr.endLoop (w2.heap.size+1)).run P w4 = .ok none w5:=by rw [run_endLoop x4.at_ (by grind),ew5,er]
  have hsz:w.heap.size≤w2.heap.size:=k4.size;have hr5:ct pl4 M4 s4'.heap w5:=by grind [qX]
  have hst5:cW h pl M w s4'.heap pl4 M4 w5:=by rw [ew5];exact tU ((k4.trans hst3 k5).trans m4 k5) (by omega) _
  have y5:OB w2.heap.size (.deferred (some [])) pl4 w5:=by rw [ew5];exact y4.other (by omega) _
  have hfr5:FrRel pl4 M4 AR a2:=k3.mono m4.ext m4.mem;have fin:a4.defers = []∧∃ v,(results fk a4.tmps).run P w4 = .ok v w4∧rangePost Fence.wide 1 P (w2.heap.size+1) (Exit.inBlock bl (Exit.then ((Code.seq (.region id4 ops4 false) .ret).wpIn Fence.wide 1 P (bodyPostM Fence.wide 1 P fn fun e w'=>∃ cv v h',e = .returned cv∧Ψ v h'∧fP pl M h w v h' cv w'))
     (bodyPostM Fence.wide 1 P fn fun e w'=>∃ cv v h',e = .returned cv∧Ψ v h'∧fP pl M h w v h' cv w'))) { a2 with defers:= [{ target:= .collected w2.heap.size,args:=#[] }]++a2.defers } (.returned v) w4:=by
   refine ⟨m3.defers,_,hres,none,w5,hend,?_⟩;show (Code.seq (.region id4 ops4 false) .ret).wpIn Fence.wide 1 P _ _ w5
   rw [hdef];refine wpIn_seq ?_;obtain ⟨s6,hp6,s7,hW7,v,hv7,hΨ7⟩:=h4 _ hΨ4;have hs5:SNow G fn.ntmps s4'.heap pl4 M4 w5 ⟨AR,s4'.heap⟩ a2 w5:=⟨⟨pl4,M4,m1,hr5,hfr5,cW.refl _ _ _ _,ar _⟩,hs2.n,hs2.small⟩
   have hb5:tq (some s4'.heap.n) s4'.heap pl4:=fun m hb=>by cases hb;exact ⟨rfl,fun id p hq=>m2.dom id p hq⟩
   refine xF (ro:=none) (ds:= [{ target:= .collected w2.heap.size,args:=#[] }]) d4 hp6 hb5 hs5 fun s' a6 w6 e6 hs6=>wpIn_ret ?_
   subst e6;obtain ⟨pl6,M6,n1,n2,n3,n4,n5⟩:=hs6.ex;have y6:=y5.step n4;have hs6':SNow G fn.ntmps h pl M w s' a6 (w6.putObj w2.heap.size (.deferred none)):=⟨⟨pl6,M6,n1,qX n2 y6 _,n3,tU (hst5.trans n4 (bL k5 m5)) hsz _,bL k5 (bL m5 n5)⟩,hs6.n,hs6.small⟩
   have hs7:=hW7 _ _ _ _ _ _ _ hbase hs6';obtain ⟨pl7,M7,t1,t2,t3,t4,t5⟩:=hs7.ex;obtain ⟨cv,u1,u2⟩:=nG t2 t3 hv7;obtain ⟨pl8,M8,z1,z2,z3,z4⟩:=pK pol hr t2 u2 t4 t5 (rfl:dM pol h.n v s7.heap=((dM pol h.n v s7.heap).1,(dM pol h.n v s7.heap).2));exact ⟨by simp, .inl ⟨w2.heap.size,_,rfl,run_takeDeferred y6.at_,cv,u1,cv,_,_,rfl,hΨ7,pl8,M8,z1,z2,z3,z4⟩⟩
  cases e with
  | exit id=>simp_all
  | normal=>exact fin
  | ret=>exact fin
end
end Go.Ev
namespace Go.Ev
open Go
theorem VRel.unren {ρ:Nat→Nat} {n:Nat} {pl pl2:Pl} {M:dz} {v:AV} {x:Value} (h:VRel pl2 M v x) (hp : ∀ id p,id<n→pl2 id=some p→pl (ρ id)=some p) (ht:v.top≤n):VRel pl M (Ev.ren ρ v) x:=by
 have gt : ∀ {xs:List AV} {i:Nat} {z:AV},(xs.map (Ev.ren ρ))[i]? = some z→∃ y,xs[i]? = some y∧z=Ev.ren ρ y:=by grind
 have tp : ∀ {xs:List AV} {i j:Nat} {z y:AV},aY xs≤n→xs[i]? = some z→z.cells[j]? = some y→y.top≤n:=by
  intro xs i j x y h1 h2 h3;exact kX (dl.1 h1 x (bD h2)) (bD h3)
 have sc : ∀ {xs:List AV} {sz:Nat},(∀ x,x∈xs→x.cells.length=sz∧Sc x)→∀ x,x∈xs.map (Ev.ren ρ)→x.cells.length=sz∧Sc x:=by
  intro xs sz h x hx;obtain ⟨y,hy,rfl⟩:=ky.1 hx;obtain ⟨h1,h2⟩:=h y hy;rw [fF];refine ⟨by simp_all,fun u hu=>?_⟩;rw [fF] at hu;obtain ⟨z,hz,rfl⟩:=ky.1 hu;rw [mF];exact h2 z hz
 have cel : ∀ {xs:List AV} {c:Array Value} {o sz:Nat},aY xs≤n→(∀ i x j y,xs[i]? = some x→x.cells[j]? = some y→y.top≤n→VRel pl M (Ev.ren ρ y) (c.getD (o+i * sz+j) undef))→
   ∀ i x j y,(xs.map (Ev.ren ρ))[i]? = some x→x.cells[j]? = some y→VRel pl M y (c.getD (o+i * sz+j) undef):=by
  intro xs c o sz ht h i x j y h1 h2;obtain ⟨x0,e1,rfl⟩:=gt h1;rw [fF] at h2;grind
 induction h with
 | bool b=>exact .bool b
 | int k n=>exact .int k n
 | str s=>exact .str s
 | nilp=>exact .nilp
 | ptr h1 h2 h3=>simp only [AV.top] at ht;exact .ptr (hp _ _ (by omega) h1) h2 h3
 | pptr hm hs hi hc ih=>
  simp only [AV.top] at ht;simp only [Ev.ren,eT];exact .pptr ⟨hm.1,hm.2.1,by simp_all,hm.2.2.2⟩ (sc hs) (by simp_all) (cel ht fun i x j y h1 h2 h3=>ih i x j y h1 h2 h3)
 | nils=>exact .nils
 | slice h1 h2 h3 h4 h5=>simp only [AV.top] at ht;exact .slice (hp _ _ (by omega) h1) h2 h3 h4 h5
 | sl0n _ ih=>exact .sl0n (ih (bN _))
 | sl0s _ ih=>exact .sl0s (ih ht)
 | ps hl ht' hm hs hc ih=>
  simp only [AV.top] at ht;simp only [Ev.ren,eT];have:=VRel.ps (pl:=pl) (xs:=_) (by simpa using hl) (by simpa using ht') (by simp_all) (sc hs) (cel ht fun i x j y h1 h2 h3=>ih i x j y h1 h2 h3);simp_all
 | lsn=>exact .lsn
 | lsp h ht0 ih=>
  have:=ih (by grind [AV.top]);simp only [Ev.ren,eN ρ _ ht0] at this;exact .lsp this ht0
 | nilm=>exact .nilm
 | map h1 h2=>simp only [AV.top] at ht;exact .map (hp _ _ (by omega) h1) h2
 | func h1 h2 _ _ ih1 ih2=>
  simp only [AV.top,pZ] at ht;simp only [Ev.ren,eT];refine .func (by simp_all) (by simp_all) (fun j y hj=>?_) (fun j y hj=>?_)
  ·obtain ⟨z,e,rfl⟩:=gt hj;exact ih1 j z e (dl.1 ht.1 z (bD e))
  ·obtain ⟨z,e,rfl⟩:=gt hj;exact ih2 j z e (dl.1 ht.2 z (bD e))
 | nilf=>exact .nilf
 | iface _ ih=>simp only [AV.top] at ht;exact .iface (ih ht)
 | nili=>exact .nili
 | agg h1 h2 _ ih=>
  simp only [AV.top] at ht;simp only [Ev.ren,eT];refine .agg (by simp_all) (fun y hy=>?_) (fun j y hj=>?_)
  ·grind [mF]
  ·obtain ⟨z,e,rfl⟩:=gt hj;exact ih j z e (dl.1 ht z (bD e))
 | tuple h1 _ ih=>
  simp only [AV.top] at ht;simp only [Ev.ren,eT];refine .tuple (by simp_all) (fun j y hj=>?_);obtain ⟨z,e,rfl⟩:=gt hj;exact ih j z e (dl.1 ht z (bD e))
def ep0:AObj→Bool
 | .row _ _ e _=>Nat.beq e 0
 | .map _ _=>true
 | _=>false
theorem bp.ep0 {pl:Pl} {M:dz} {p:Place} {o:AObj} {x:Option Obj} (h:bp pl M p o x) (he:Ev.ep0 o=true):p.ep=0:=by
 match o,x with
 | .row sz op ep xs,some (.cells c t fr)=>rw [h.1];exact j1 he
 | .map es clock,some (.map entries clock')=>exact h.1
theorem Tg {ρ:Nat→Nat} {o:AObj} : ep0 (jC ρ o)=ep0 o:=by cases o <;> rfl
theorem bp.unren {ρ:Nat→Nat} {n:Nat} {pl pl2:Pl} {M:dz} {o:AObj} {p:Place} {x:Option Obj} (h:bp pl2 M p o x) (he:Ev.ep0 o=true) (hp : ∀ id p,id<n→pl2 id=some p→pl (ρ id)=some p) (ht:o.top≤n):bp pl M p (jC ρ o) x:=by
 match o,x with
 | .row sz op ep xs,some (.cells c t fr)=>
  obtain ⟨h1,h2,h3,h4,h5,h6,h7,h8⟩:=h;simp only [AObj.top] at ht;have gt : ∀ {xs:List AV} {i:Nat} {z:AV},(xs.map (Ev.ren ρ))[i]? = some z→∃ y,xs[i]? = some y∧z=Ev.ren ρ y:=by grind
  simp only [jC,eT];refine ⟨h1,h2,by simp_all,h4,h5,h6,by simp_all,⟨by simpa using h8.fit,fun y hy=>?_,fun i z j y k1 k2=>?_⟩⟩
  ·obtain ⟨z,hz,rfl⟩:=ky.1 hy;obtain ⟨q1,q2⟩:=h8.elem z hz;rw [fF];refine ⟨by simp_all,fun u hu=>?_⟩;rw [fF] at hu;obtain ⟨z,hz,rfl⟩:=ky.1 hu;rw [mF];exact q2 z hz
  ·obtain ⟨z0,e1,rfl⟩:=gt k1;rw [fF] at k2;obtain ⟨y0,e2,rfl⟩:=gt k2;exact (h8.cell i z0 j y0 e1 e2).unren hp (kX (dl.1 ht z0 (bD e1)) (bD e2))
 | .map es clock,some (.map entries clock')=>
  obtain ⟨h1,h2,h3,h4⟩:=h;simp only [AObj.top] at ht;simp only [jC,o8];refine ⟨h1,h2,by simp_all,fun i e hi=>?_⟩;rw [ri] at hi;cases hx:es[i]? with
  | none=>grind
  | some e0=>
   rw [hx] at hi;cases hi
   obtain ⟨e',k1,k2,k3,k4⟩:=h4 i e0 hx;have:=ox.1 ht e0 (bD hx);exact ⟨e',k1,k2.unren hp this.1,k3.unren hp this.2,k4⟩
theorem aB.frame {P:Program} {G:eg} (hG:gH G) {f:FuncId} {args:List AV} {v:AV} (ρ:Nat→Nat) {L L':List AObj} (hl:L'.length=L.length)
  (hL : ∀ o,o∈L→ep0 o=true∧o.top≤L.length) (hL' : ∀ o,o∈L'→ep0 o=true∧o.top≤L.length) (hm : ∀ i o,L'[i]? = some o→(ae L').get i=some o) (ht:aY args≤L.length) (hv:v.top≤L.length)
  (hi : ∀ i j,i<L.length→j<L.length→ρ i=ρ j→i=j)
  (h0:aB P G f args (ae L) (fun v1 h1=>v1=v∧h1=ae L')) {h h':AHeap} (hg : ∀ i o,L[i]? = some o→h.get (ρ i)=some (jC ρ o))
  (hg' : ∀ k o,h'.get k=some o→(∃ i o',L'[i]? = some o'∧k=ρ i∧o=jC ρ o')∨((∀ i,i<L.length→k≠ρ i)∧h.get k=some o)) (hn:h'.n=h.n) :
  aB P G f (kI ρ args) h (fun v1 h1=>v1=Ev.ren ρ v∧h1=h'):=by
 intro pl M w vs hG1 hr hvs;obtain ⟨n,en⟩ : ∃ n,n=L.length:=⟨_,rfl⟩
 rw [← en] at hL hL' ht hi hg' hv;have hat : ∀ i,i<n→∃ o,L[i]? = some o∧o∈L:=fun i h=>⟨L[i],kS (by omega),Cx _⟩
 have hat' : ∀ i,i<n→∃ o,L'[i]? = some o∧o∈L':=fun i h=>⟨L'[i]'(by omega),kS (by omega),Cx _⟩
 have hpl1 : ∀ k q,jf ρ n pl k=some q→k<n∧pl (ρ k)=some q:=fun k q hk=>by grind [jf]
 have hnH:(ae L).n=n:=en.symm;have hnH':(ae L').n=n:=hl.trans en.symm;have hr1:ct (jf ρ n pl) M (ae L) w:=by
  refine ⟨fun k q hk=>?_,fun k q o hk hgo=>?_,fun k q hk=>?_,fun k k' q q' hk hk' e=>?_,hr.imm,fun k q hk=>?_⟩
  ·simp_all
  ·obtain ⟨hk1,hk2⟩:=hpl1 k q hk;have:=mc hgo;exact (hr.obj (ρ k) q _ hk2 (hg k o this)).ren (hL o (bD this)).2
  ·exact hr.blk _ q (hpl1 k q hk).2
  ·obtain ⟨a1,a2⟩:=hpl1 k q hk;obtain ⟨b1,b2⟩:=hpl1 k' q' hk';exact hi k k' a1 b1 (hr.inj _ _ q q' a2 b2 e)
  ·exact hr.sep _ q (hpl1 k q hk).2
 have hvs1:VRels (jf ρ n pl) M args vs:=⟨by rw [← hvs.len,eT,eZ],fun j y hj=>(hvs.at_ j (Ev.ren ρ y) (by grind [eT])).ren rfl (dl.1 ht y (bD hj))⟩
 have hG1':nb G (jf ρ n pl) M:=hG1.none hG;have fin : ∀ cv w',fP (jf ρ n pl) M (ae L) w v (ae L') cv w'→fP pl M h w (Ev.ren ρ v) h' cv w':=by
  intro cv w' ⟨pl2,M2,k1,k2,k3,k4⟩;have kept : ∀ b,b<w.heap.size→(∀ i q,i<n→pl (ρ i)=some q→q.blk≠b)→w'.heap[b]? = w.heap[b]?:=fun b hb hne=>k3.kept b hb fun k q hk _=>hne k q (hpl1 k q hk).1 (hpl1 k q hk).2
  have same : ∀ i,i<n→pl2 i=pl (ρ i):=by
   intro i hin;cases hp:pl (ρ i) with
   | none=>exact k3.new i (by omega) (by simp_all [jf])
   | some p=>
    obtain ⟨p2,e1,e2,e3⟩:=k3.ext i p (rT hin hp);obtain ⟨o,h1,h2⟩:=hat i hin;obtain ⟨o',h1',h2'⟩:=hat' i hin;have q1:p.ep=0:=(hr.obj (ρ i) p _ hp (hg i o h1)).ep0 (by grind [Tg]);have q2:p2.ep=0:=(k2.obj i p2 o' e1 (hm i o' h1')).ep0 (hL' o' h2').1;simp_all
  have hun : ∀ id p,id<n→pl2 id=some p→pl (ρ id)=some p:=fun id p h1 h2=>by simp_all
  refine ⟨pl,M2,k1.unren hun hv,⟨fun k q hk=>by rw [hn];exact hr.dom k q hk,fun k q o hk hgo=>?_,fun k q hk=>ur (hr.blk k q hk) k3.size,hr.inj,k2.imm,fun k q hk=>?_⟩,⟨lg.refl _,fun _ _ h=>h,k3.mem,k3.size,fun b hb hk=>kept b hb fun i q hin hp e=>?_,fun k q hk=> .inl ⟨q,hk,rfl⟩,fun k q hk hno=>?_,fun _ _ h _=>h,k3.memNew,k3.os,k3.tape,k3.out,k3.drawn⟩,wO hn.symm⟩
  ·rcases hg' k o hgo with ⟨i,o',h1,rfl,rfl⟩ | ⟨hne,hgo⟩
   ·have hin:i<n:=by grind
    have hm':=bD h1;exact (k2.obj i q o' (by simp_all) (hm i o' h1)).unren (hL' o' hm').1 hun (hL' o' hm').2
   ·rw [kept _ (hr.blk k q hk) fun i q' hin hp e=>hne i hin (hr.inj _ _ q q' hk hp e.symm)];exact (hr.obj k q o hk hgo).mono (lg.refl _) k3.mem
  ·cases hM:M2 q.blk with
   | none=>rfl
   | some c2=>
    rcases k3.memNew _ c2 hM with k5 | k5
    ·rw [hr.sep k q hk] at k5;grind
    ·have:=hr.blk k q hk;omega
  ·grind
  ·cases hq:h'.get k with
   | none=>rfl
   | some o=>grind
 rcases h0 (jf ρ n pl) M w vs hG1' hr1 hvs1 with ⟨h1,h2⟩ | ⟨cv,w',v1,h1,q1,⟨q2,q3⟩,q4⟩
 ·exact .inl ⟨h1,Calls.mono h2 fun e w' ⟨cv,v1,h1,k1,⟨k2,k3⟩,k4⟩=>⟨cv,Ev.ren ρ v,h',k1,⟨rfl,rfl⟩,by simp_all⟩⟩
 ·exact .inr ⟨cv,w',Ev.ren ρ v,h',q1,⟨rfl,rfl⟩,by simp_all⟩
end Go.Ev
