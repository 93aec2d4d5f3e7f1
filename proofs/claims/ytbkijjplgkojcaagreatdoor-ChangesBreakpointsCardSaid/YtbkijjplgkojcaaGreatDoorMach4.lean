/- An abstract machine for closed runs and for walks, proved sound against the model: part 4 of 6. No conditions. -/
import Derived.Test.YtbkijjplgkojcaaGreatDoorMach3
import Derived.OpenShut
import Derived.ChangeArms
import Derived.ProofKit
import Derived.LaidMore
import Derived.IntWalk

namespace Go.Ev
open Go
section
variable {P : Program} {G : Env} {call : Caller} {ops : Array Oper} {N : Nat} {hs : Nat → AHeap} {Fs : Nat → Fr} {vs : Nat → AV} {rc : Nat → Rec} {h0 : AHeap} {pl0 : Pl} {M0 : Mem} {w0 : World} {L : Nat → Prop} {a : Act} {w : World}
theorem Reg.maskLow (R:Reg P G call ops N hs Fs vs rc) : ∀ (n i:Nat),i<n→∀ o,ops[i]? = some o→∀ x,Nat.testBit (maskAt (masksGo ops.toList 0 []) i) x=true→x<i
 | 0,i,h,_,_,_,_=>by omega
 | n+1,i,h,o,ho,x,hx=>by
  have hb:=R.below i o ho
  have:=masksGo_bit ops.toList 0 [] i o (by simpa using ho) (by rw [Nat.zero_add];exact hb) x (by rw [Nat.zero_add];exact hx)
  obtain ⟨d,h1,h2⟩:=this
  have hd:=belowAll_ok hb d h1
  rcases h2 with rfl | h2
  ·exact hd
  ·have hlt:=(Array.getElem?_eq_some_iff.1 ho).1
   obtain ⟨o',ho'⟩:=Reg.get (ops:=ops) (j:=d) (by omega)
   have:=R.maskLow n d (by omega) o' ho' x h2
   omega
theorem looksOk_at {masks:List (Nat × Nat)} {deps:List Nat} {look:List Tmp} {j:Nat} : ∀ {l:List Oper} {i:Nat},looksOk masks deps look j l i=true→∀ (k:Nat) (o:Oper) (t:Tmp),l[k]? = some o→o.dst=some t→t∈look→
  i+k=j∨i+k∈deps∨Nat.testBit (maskAt masks (i+k)) j=true
 | [],_,_,k,o,t,h,_,_=>by simp at h
 | o'::r,i,e,k,o,t,h,hd,ht=>by
  simp only [looksOk,Bool.and_eq_true] at e
  match k,h with
  | 0,h=>
   simp at h
   subst h
   have e1:=e.1
   rw [hd] at e1
   simp only [Bool.or_eq_true,Bool.not_eq_true',hasId_iff,beq_iff,decide_eq_true_eq] at e1
   rcases e1 with ((e1 | e1) | e1) | e1
   ·have:hasId t look=true:=hasId_iff.2 ht
    rw [this] at e1;cases e1
   ·exact .inl e1
   ·exact .inr (.inl e1)
   ·exact .inr (.inr e1)
  | k+1,h=>
   have:=looksOk_at e.2 k o t (by simpa using h) hd ht
   rw [show i+(k+1)=i+1+k by omega]
   exact this
theorem Reg.back (R:Reg P G call ops N hs Fs vs rc) {id:Nat} {o:AObj} {j:Nat} : ∀ (m:Nat),j≤m→m≤ops.size→(∀ i,j≤i→i<m→¬ (rc i).wr.Holds id)→(hs m).get id=some o→(hs j).get id=some o
 | 0, h, _, _, e => by have:j=0:=by omega
                       subst this;exact e
 | m+1,h,hm,hn,e=>by
  rcases Nat.lt_or_ge j (m+1) with h1 | h1
  ·obtain ⟨o',ho'⟩:=Reg.get (ops:=ops) (j:=m) (by omega)
   exact R.back m (by omega) (by omega) (fun i h2 h3=>hn i h2 (by omega)) ((R.spec m o' ho').keep id o (hn m (by omega) (by omega)) e)
  ·have:j=m+1:=by omega
   subst this;exact e
theorem put_getD {t d:Nat} {x:Value} {dst:Option Tmp} (h:dst≠some t):(a.put dst x).tmps.getD t undef=a.tmps.getD t undef:=by
 cases dst with
 | none=>rfl
 | some d=>
  have:d≠t:=fun e=>h (by rw [e])
  simp [Act.put,Array.getD_eq_getD_getElem?,Array.getElem?_setIfInBounds,this]
theorem put_getD_self {t:Nat} {x:Value} (h:t<a.tmps.size):(a.put (some t) x).tmps.getD t undef=x:=by
 simp [Act.put,Array.getD_eq_getD_getElem?,h]
theorem put_size {dst:Option Tmp} {x:Value} : (a.put dst x).tmps.size=a.tmps.size:=by
 cases dst <;> simp [Act.put]
theorem put_defers {dst:Option Tmp} {x:Value} : (a.put dst x).defers=a.defers:=by
 cases dst <;> simp [Act.put]
theorem Inv.step (R:Reg P G call ops N hs Fs vs rc) (hG:GOk G pl0 M0) (hdom : ∀ id p,pl0 id=some p→id<h0.n) (hh0:h0.n≤(hs 0).n)
  (I:Inv P G ops N hs Fs vs rc h0 pl0 M0 w0 L a w) {j:Nat} {o:Oper} (ho:ops[j]? = some o) (hnL : ¬ L j) (hrd : ∀ d,d∈depsOf o.after.toList→L d)
  {K:Act→World→Prop} {Q:Exit→Act→World→Prop} (hK : ∀ a' w',Inv P G ops N hs Fs vs rc h0 pl0 M0 w0 (fun i=>i=j∨L i) a' w'→K a' w'):wpOp P ops Q j K a w:=by
 obtain ⟨hdown,⟨pl,M,g,hr,hst,hV,hU,hF1,hF2⟩,hsz,hdf⟩:=I
 have hj:j<ops.size:=(Array.getElem?_eq_some_iff.1 ho).1
 have hmask:=ready_mask hdown ho (R.below j o ho) hrd
 have hn0:h0.n≤(hs j).n:=Nat.le_trans hh0 (R.mono (Nat.zero_le _) (by omega))
 obtain ⟨hfn,hfr⟩:=R.frame j (by omega)
 have later : ∀ i o',ops[i]? = some o'→Nat.testBit (maskAt (masksGo ops.toList 0 []) i) j=true→¬ L i:=fun i o' _ hb hL=>hnL (hdown i hL j hb)
 unfold wpOp
 rw [ho]
 simp only []
 refine (R.spec j o ho).exec (hs ops.size).n h0.n g pl M a w K Q hn0 (R.mono (by omega) (Nat.le_refl _)) R.big hr ?_ ?_ ?_ ?_ hdf ?_ ?_
 ·intro id o' hv hg
  refine hV id j o' (by omega) (fun i hi hw=>?_) (fun i hi hi2 hw=>?_) hg
  ·exact hmask i (R.ord j o ho i hi ⟨id, .inl ⟨hw,hv⟩⟩)
  ·rcases Nat.lt_or_ge j i with h1 | h1
   ·obtain ⟨oi,hoi⟩:=Reg.get (ops:=ops) hi2
    exact later i oi hoi (R.ord i oi hoi j h1 ⟨id, .inr (.inl ⟨hw,hv⟩)⟩)
   ·have:i=j:=by omega
    subst this;exact hnL
 ·exact fun id h1 h2=>hU j hj hnL id h1 h2
 ·refine hG.mono (fun id p hp=>?_) hst.mem
  obtain ⟨p',k1,k2⟩:=hst.ext id p hp
  exact ⟨p',cutPl_some.2 ⟨by have:=hdom id p hp;omega,k1⟩,k2⟩
 ·rw [hsz,hfn]
 ·intro t u ht hu
  obtain ⟨k1,k2⟩:=hfr t u hu
  refine ⟨by rw [hfn];exact k1,?_⟩
  rcases k2 with ⟨i,oi,q1,q2,q3,q4⟩ | ⟨q1,q2⟩
  ·subst q4
   rcases looksOk_at (R.looks j o ho) i oi t (by simpa using q2) q3 ht with z | z | z
   ·omega
   ·exact hF1 i oi t q2 (hrd i (by simpa using z)) q3
   ·have:=R.maskLow (i+1) i (by omega) oi q2 j (by simpa using z)
    omega
  ·refine hF2 t u (fun i oi hoi hLi hd=>?_) q2
   rcases Nat.lt_or_ge i j with h1 | h1
   ·exact q1 i oi h1 hoi hd
   ·rcases looksOk_at (R.looks j o ho) i oi t (by simpa using hoi) hd ht with z | z | z
    ·have:i=j:=by omega
     subst this;exact hnL hLi
    ·have:=belowAll_ok (R.below j o ho) _ z
     omega
    ·exact later i oi hoi (by simpa using z) hLi
 ·intro cv w' pl' M' g' r1 r2 r3 r4 r5 r6 r7
  refine hK _ _ ⟨fun i hi x hx=>?_,⟨pl',M',g',r1,hst.trans r2 (Nat.le_refl _),?_,?_,?_,?_⟩,by rw [put_size];exact hsz,by rw [put_defers];exact hdf⟩
  ·rcases hi with rfl | hi
   ·exact .inr (hmask x hx)
   ·exact .inr (hdown i hi x hx)
  ·intro id m o' hm ha hb hg
   by_cases hw:(rc j).wr.Holds id
   ·have hjm:j<m:=by
     rcases Nat.lt_or_ge j m with h1 | h1
     ·exact h1
     ·exact absurd (.inl rfl) (hb j h1 hj hw)
    refine r7 id o' hw (R.back m (by omega) hm (fun i h1 h2 hwi=>?_) hg)
    obtain ⟨oi,hoi⟩:=Reg.get (ops:=ops) (j:=i) (by omega)
    rcases ha i h2 hwi with rfl | hLi
    ·omega
    ·exact later i oi hoi (R.ord i oi hoi j (by omega) ⟨id, .inr (.inr ⟨hw,hwi⟩)⟩) hLi
   ·rw [r6 id hw]
    refine hV id m o' hm (fun i hi hwi=>?_) (fun i hi hi2 hwi hLi=>hb i hi hi2 hwi (.inr hLi)) hg
    rcases ha i hi hwi with rfl | hLi
    ·exact absurd hwi hw
    ·exact hLi
  ·intro k hk hnk id h1 h2
   have hkj:k≠j:=fun e=>hnk (.inl e)
   refine r5 id (hU k hk (fun h=>hnk (.inr h)) id h1 h2) ?_
   rcases Nat.lt_or_ge k j with h3 | h3
   ·have:=R.mono (i:=k+1) (j:=j) (by omega) (by omega)
    exact .inl (by omega)
   ·have:=R.mono (i:=j+1) (j:=k) (by omega) (by omega)
    exact .inr (by omega)
  ·intro k ok t hok hLk hd
   by_cases e:k=j
   ·subst e
    rw [ho] at hok
    cases hok
    rw [hd]
    have hlt:t<a.tmps.size:=by
     have hp:=R.put k o ho
     rw [hd] at hp
     simp only [putA,Fr.put] at hp
     split at hp
     ·rename_i hb
      rw [blt_iff] at hb
      simp only [decide_eq_true_eq] at hb
      rw [hsz,← hfn];exact hb
     ·simp at hp
    rw [put_getD_self hlt]
    exact r3
   ·have hLk:L k:=hLk.resolve_left e
    rw [put_getD (d:=0) fun h=>e (R.dsts k j ok o t hok ho hd h)]
    exact (hF1 k ok t hok hLk hd).mono r4 r2.mem
  ·intro t u hno hu
   rw [put_getD (d:=0) (hno j o ho (.inl rfl))]
   exact (hF2 t u (fun i oi hoi hLi=>hno i oi hoi (.inr hLi)) hu).mono r4 r2.mem
end
end Go.Ev

namespace Go.Ev
open Go
section
variable {P : Program} {G : Env} {call : Caller} {ops : Array Oper} {N : Nat} {hs : Nat → AHeap} {Fs : Nat → Fr} {vs : Nat → AV} {rc : Nat → Rec} {h0 : AHeap} {pl0 : Pl} {M0 : Mem} {w0 : World} {L : Nat → Prop} {a : Act} {w : World}
theorem Reg.all_listed (R:Reg P G call ops N hs Fs vs rc) {listed:Array Bool} (hl:listed.size=ops.size) (h:Region.ready .any ops listed = []) : ∀ (n j:Nat),j<n→j<ops.size→listed.getD j false=true
 | 0,j,h1,_=>by omega
 | n+1,j,h1,h2=>by
  obtain ⟨o,ho⟩:=Reg.get (ops:=ops) h2
  cases hv:listed.getD j false with
  | true=>rfl
  | false=>
   exfalso
   have:j∈Region.ready .any ops listed:=by
    refine mem_ready.2 ⟨?_,o,ho,fun e he hb=>?_⟩
    ·have hlt:j<listed.size:=by omega
     simp [Array.getD,hlt] at hv ⊢
     exact hv
    ·have hd:=belowAll_ok (R.below j o ho) e.on (depsOf_mem.2 ⟨e,by simpa using he,hb,rfl⟩)
     exact R.all_listed hl h n e.on (by omega) (by omega)
   rw [h] at this
   simp at this
theorem Inv.last (R:Reg P G call ops N hs Fs vs rc) (I:Inv P G ops N hs Fs vs rc h0 pl0 M0 w0 L a w) (hall : ∀ j,j<ops.size→L j) :
  ∃ pl M,Rep pl M (hs ops.size) w∧Step h0 pl0 M0 w0 (hs ops.size) pl M w∧FrRel pl M (Fs ops.size) a:=by
 obtain ⟨hdown,⟨pl,M,g,hr,hst,hV,hU,hF1,hF2⟩,hsz,hdf⟩:=I
 have key : ∀ id o,(hs ops.size).get id=some o→g id=some o:=fun id o hg=>hV id ops.size o (Nat.le_refl _) (fun i hi _=>hall i hi) (fun i h1 h2=>by omega) hg
 obtain ⟨hfn,hfr⟩:=R.frame ops.size (Nat.le_refl _)
 refine ⟨pl,M,⟨hr.dom,fun id p o hp hg=>hr.obj id p o hp (key id o hg),hr.blk,hr.inj,hr.imm,hr.sep⟩,⟨hst.ext,hst.new,hst.mem,hst.size,hst.kept,hst.blks,fun id p hp hg=>?_,hst.stay,hst.memNew,hst.os,hst.tape,hst.out,hst.drawn⟩,⟨by rw [hsz,hfn],hdf,fun t u ht=>?_⟩⟩
 ·cases hh:(hs ops.size).get id with
  | none=>rfl
  | some o=>have:=hst.live id p hp hg;rw [key id o hh] at this;cases this
 ·obtain ⟨k1,k2⟩:=hfr t u ht
  refine ⟨by rw [hfn];exact k1,?_⟩
  rcases k2 with ⟨i,oi,q1,q2,q3,q4⟩ | ⟨q1,q2⟩
  ·subst q4
   exact hF1 i oi t q2 (hall i q1) q3
  ·exact hF2 t u (fun i oi hoi _=>q1 i oi (Array.getElem?_eq_some_iff.1 hoi).1 hoi) q2
theorem any_ok (R:Reg P G call ops N hs Fs vs rc) (hG:GOk G pl0 M0) (hdom : ∀ id p,pl0 id=some p→id<h0.n) (hh0:h0.n≤(hs 0).n) {Q:Exit→Act→World→Prop}
  (hQ : ∀ a1 w1,(∃ pl M,Rep pl M (hs ops.size) w1∧Step h0 pl0 M0 w0 (hs ops.size) pl M w1∧FrRel pl M (Fs ops.size) a1)→Q .normal a1 w1) :
  ∀ (fuel:Nat) (listed:Array Bool) (a:Act) (w:World),listed.size=ops.size→listed.count false≤fuel→Inv P G ops N hs Fs vs rc h0 pl0 M0 w0 (fun j=>listed.getD j false=true) a w→wpAny P .any ops Q fuel listed a w:=by
 intro fuel
 induction fuel with
 | zero=>
  intro listed a w hl hc I
  have hall : ∀ j,j<ops.size→listed.getD j false=true:=by
   intro j hj
   have hlt:j<listed.size:=by omega
   cases hv:listed[j] with
   | true=>simp [Array.getD,hlt,hv]
   | false=>
    have h1:0<listed.count false:=Array.count_pos_iff.2 (hv ▸ Array.getElem_mem hlt)
    omega
  refine ⟨?_,hQ a w (I.last R hall)⟩
  refine List.eq_nil_iff_forall_not_mem.2 fun j hj=>?_
  obtain ⟨h1,o,ho,_⟩:=mem_ready.1 hj
  have hlt:j<ops.size:=(Array.getElem?_eq_some_iff.1 ho).1
  have h2:=hall j hlt
  have hlt:j<listed.size:=by omega
  simp [Array.getD,hlt] at h1 h2
  rw [h1] at h2;cases h2
 | succ fuel ih=>
  intro listed a w hl hc I
  refine ⟨fun h=>hQ a w (I.last R fun j hj=>R.all_listed hl h (j+1) j (by omega) hj),fun j hj=>?_⟩
  obtain ⟨h1,o,ho,h2⟩:=mem_ready.1 hj
  have hlt0:j<ops.size:=(Array.getElem?_eq_some_iff.1 ho).1
  have hlt:j<listed.size:=by omega
  have hf:listed[j]=false:=by simpa [Array.getD,hlt] using h1
  refine I.step R hG hdom hh0 ho (by simp [Array.getD,hlt,hf]) (fun d hd=>?_) fun a' w' I'=>?_
  ·obtain ⟨e,he,hb,rfl⟩:=depsOf_mem.1 hd
   exact h2 e (by simpa using he) hb
  ·refine ih _ a' w' (by simpa using hl) ?_ ?_
   ·have hs:listed.setIfInBounds j true=listed.set j true hlt:=by simp [Array.setIfInBounds,hlt]
    rw [hs,Array.count_set]
    have:0<listed.count false:=Array.count_pos_iff.2 (hf ▸ Array.getElem_mem hlt)
    simp [hf]
    omega
   ·have e:(fun i=>i=j∨listed.getD i false=true)=fun i=>(listed.setIfInBounds j true).getD i false=true:=by
     funext i
     apply propext
     by_cases q:j=i
     ·subst q
      simp [Array.getD,hlt]
     ·rw [getD_set_ne false q]
      constructor
      ·rintro (h | h)
       ·exact absurd h.symm q
       ·exact h
      ·exact .inr
    rw [← e];exact I'
theorem readyAll_get {masks:List (Nat × Nat)} : ∀ {l:List Oper} {i:Nat} {ds:List DOper},readyAll P G ops masks l i=some ds→ds.length=l.length∧∀ (k:Nat) (o:Oper),l[k]? = some o→
  belowAll (i+k) (depsOf o.after.toList)=true∧looksOk masks (depsOf o.after.toList) (o.looksAt ops) (i+k) ops.toList 0=true∧
  ds[k]? = some ⟨oneOper P G ops o,o.looksAt ops,footOf o.op,kindOf o.op,maskAt masks (i+k)⟩
 | [],i,ds,e=>by simp [readyAll] at e;subst e;exact ⟨rfl,fun k o h=>by simp at h⟩
 | o'::r,i,ds,e=>by
  simp only [readyAll] at e
  split at e
  ·rename_i hck
   simp only [Bool.and_eq_true] at hck
   cases hr:readyAll P G ops masks r (i+1) with
   | none=>rw [hr] at e;simp at e
   | some l=>
    rw [hr] at e
    simp at e
    subst e
    obtain ⟨h1,h2⟩:=readyAll_get hr
    refine ⟨by simp [h1],fun k o hk=>?_⟩
    match k,hk with
    | 0,hk=>
     simp at hk
     subst hk
     exact ⟨hck.1,hck.2,rfl⟩
    | k+1,hk=>
     have:=h2 k o (by simpa using hk)
     rw [show i+(k+1)=i+1+k by omega]
     simpa using this
  ·simp at e
theorem dstsOk_ok : ∀ {l:List Oper},dstsOk l=true→∀ (i j:Nat) (oi oj:Oper) (t:Tmp),l[i]? = some oi→l[j]? = some oj→oi.dst=some t→oj.dst=some t→i=j
 | [],_,i,j,oi,oj,t,h,_,_,_=>by simp at h
 | o::r,e,i,j,oi,oj,t,hi,hj,h1,h2=>by
  simp only [dstsOk,Bool.and_eq_true] at e
  have clash : ∀ (k:Nat) (q:Oper),r[k]? = some q→o.dst=some t→q.dst=some t→False:=by
   intro k q hk a b
   have e1:=e.1
   rw [a] at e1
   have:=List.all_eq_true.1 e1 q (List.mem_of_getElem? hk)
   rw [b] at this
   simp [beq_iff] at this
  match i,j,hi,hj with
  | 0,0,_,_=>rfl
  | 0,j+1,hi,hj=>simp at hi;subst hi;exact (clash j oj (by simpa using hj) h1 h2).elim
  | i+1,0,hi,hj=>simp at hj;subst hj;exact (clash i oi (by simpa using hi) h2 h1).elim
  | i+1,j+1,hi,hj=>rw [dstsOk_ok e.2 i j oi oj t (by simpa using hi) (by simpa using hj) h1 h2]
theorem draw_ok (hm:P.follows .mixedOrders=true) (hc:CallerOK P G call):DrawOK P G call:=by
 intro N h0 pl0 M0 w0 ops id s s' a w Q e hsn hQ
 unfold drawOps at e
 split at e
 ·rename_i hck
  simp only [Bool.and_eq_true] at hck
  split at e
  ·rename_i _ ds hrd
   have e:smallEnd ((drawGo ds).run call s.tmps s.heap [] 0)=some s':=e
   obtain ⟨⟨pl,M,g1,g2,g3,g4,g5⟩,hn,hsm⟩:=hsn
   cases hgo:(drawGo ds).run call s.tmps s.heap [] 0 with
   | none=>rw [hgo] at e;simp [smallEnd] at e
   | some s1=>
    rw [hgo] at e
    simp only [smallEnd] at e
    split at e
    ·rename_i hbig
     simp at e
     subst e
     rw [ble_iff] at hbig
     simp only [decide_eq_true_eq] at hbig
     obtain ⟨hs,Fs,vs,rc,a1,_,D,rfl⟩:=drawGo_data (call:=call) ds 0 (fun _=>s.heap) (fun _=>s.tmps) (fun _=>undefA) (fun _=>⟨⟨false, [],0,0⟩,⟨false, [],0,0⟩⟩) s1 hgo
     obtain ⟨e1,e2⟩:=a1 0 (Nat.le_refl _)
     obtain ⟨hlen,hget⟩:=readyAll_get hrd
     have hlen:ds.length=ops.size:=by simpa using hlen
     rw [Nat.zero_add,hlen] at hQ hbig
     have R:Reg P G call ops N hs Fs vs rc:=by
      refine ⟨hsm,by rw [e2];exact hn,fun t u h=>?_,hbig,fun j o ho=>?_,fun j o ho=>?_,fun j o ho i hi hcl=>?_,fun j o ho=>?_,fun j o ho=>?_,fun i j oi oj t hi hj=>dstsOk_ok hck.1 i j oi oj t (by simpa using hi) (by simpa using hj)⟩
      ·rw [e2] at h
       have:=(g3.at_ t u h).1
       omega
      ·obtain ⟨_,_,h3⟩:=hget j o (by simpa using ho)
       have h4:=D.one j _ h3
       simp only [Nat.zero_add] at h4
       exact dOne_ok hc rfl rfl h4
      ·obtain ⟨_,_,h3⟩:=hget j o (by simpa using ho)
       have h4:=D.put j _ h3
       simp only [Nat.zero_add] at h4
       exact h4
      ·obtain ⟨_,_,h3⟩:=hget j o (by simpa using ho)
       have h4:=D.ord j _ h3 i (by omega)
       simp only [Nat.zero_add] at h4
       exact h4 hcl
      ·obtain ⟨h1,_,_⟩:=hget j o (by simpa using ho)
       simpa using h1
      ·obtain ⟨_,h1,_⟩:=hget j o (by simpa using ho)
       simpa using h1
     refine wp_region_any hm (any_ok R (h0:=s.heap) (pl0:=pl) (M0:=M) (w0:=w) g1 g2.dom (by rw [e1];exact Nat.le_refl _) (fun a1 w1 h1=>?_) ops.size _ a _ (by simp) ?_ ?_)
     ·obtain ⟨pl1,M1,k1,k2,k3⟩:=h1
      refine hQ a1 w1 ⟨⟨pl1,M1,g1.mono k2.ext k2.mem,k1,k3,g4.trans k2 g5,?_⟩,(R.frame ops.size (Nat.le_refl _)).1,hsm⟩
      have:=R.mono (Nat.zero_le ops.size) (Nat.le_refl _)
      rw [e1] at this
      exact Nat.le_trans g5 this
     ·refine Nat.le_trans Array.count_le_size (by simp)
     ·have hno : ∀ j,¬ (Array.replicate ops.size false).getD j false=true:=by
       intro j h
       by_cases hj:j<ops.size <;> simp [Array.getD,hj] at h
      refine ⟨fun i hi=>absurd hi (hno i),⟨pl,M,s.heap.get,?_,?_,fun id m o hm ha _ hg=>?_,fun j hj _ id h1 h2=>?_,fun j o t _ h=>absurd h (hno j),fun t u _ hu=>?_⟩,by rw [g3.size];exact hn,g3.defers⟩
      ·refine ⟨fun id p hp=>?_,g2.obj,g2.blk,g2.inj,g2.imm,g2.sep⟩
       have h1:=g2.dom id p hp
       have:=R.mono (Nat.zero_le ops.size) (Nat.le_refl _)
       rw [e1] at this
       omega
      ·exact ⟨Ext.refl _,fun _ _ h=>h,fun _ _ h=>h,Nat.le_refl _,fun _ _ _=>rfl,fun id p h=> .inl ⟨p,h,rfl⟩,fun _ _ _ h=>h,fun _ _ h _=>h,fun _ _ h=> .inl h,rfl,rfl,rfl,Nat.le_succ _⟩
      ·have:=R.back (j:=0) m (Nat.zero_le _) hm (fun i _ h2 hw=>hno i (ha i h2 hw)) hg
       rw [e1] at this
       exact this
      ·cases hp:pl id with
       | none=>rfl
       | some p=>
        have h3:=g2.dom id p hp
        have:=R.mono (Nat.zero_le j) (by omega)
        rw [e1] at this
        omega
      ·rw [e2] at hu
       exact (g3.at_ t u hu).2
    ·simp at e
  ·simp at e
 ·simp at e
end
end Go.Ev

namespace Go.Ev
open Go
theorem ev_ok {C:Cfg} (hN:NoNG C.P) (hm:C.P.follows .mixedOrders=true) (hH:HookOK C) (k:Nat):CallerOK C.P C.G (evFunc C k):=
 evFunc_ok hN hH (fun _ hc=>draw_ok hm hc) k
end Go.Ev

namespace Go.Ev
open Go
def Base (b:Option Nat) (h0:AHeap) (pl0:Pl):Prop:=∀ m,b=some m→h0.n=m∧∀ id p,pl0 id=some p→id<m
theorem Base.zero {h0:AHeap} {pl0:Pl} (h:Base (some 0) h0 pl0):h0.n=0∧∀ id,pl0 id=none:=
 ⟨(h 0 rfl).1,fun id=>by
  cases hp:pl0 id with
  | none=>rfl
  | some p=>exact absurd ((h 0 rfl).2 id p hp) (Nat.not_lt_zero _)⟩
def CallPost (P:Program) (pl:Pl) (M:Mem) (h:AHeap) (w:World) (f:FuncId) (vs:Array Value) (Ψ:AV→AHeap→Prop):Prop:=
 ((callFunc f vs).run P w = .ok (.enter f vs) w∧Calls P f vs w fun e w'=>∃ cv v h',e = .returned cv∧Ψ v h'∧After pl M h w v h' cv w')∨
 (∃ cv w' v h',(callFunc f vs).run P w = .ok (.value cv) w'∧Ψ v h'∧After pl M h w v h' cv w')
def HCall (P:Program) (G:Env) (f:FuncId) (args:List AV) (h:AHeap) (Ψ:AV→AHeap→Prop):Prop:=
 ∀ (pl:Pl) (M:Mem) (w:World) (vs:Array Value),GOk G pl M→Rep pl M h w→VRels pl M args vs→CallPost P pl M h w f vs Ψ
def HCode (P:Program) (G:Env) (b:Option Nat) (c:Code) (s:St) (Φ:AExit→St→Prop):Prop:=
 ∀ (N:Nat) (h0:AHeap) (pl0:Pl) (M0:Mem) (w0:World) (a:Act) (w:World) (Q:Exit→Act→World→Prop),Base b h0 pl0→SNow G N h0 pl0 M0 w0 s a w→
  (∀ e s' a1 w1,Φ e s'→SNow G N h0 pl0 M0 w0 s' a1 w1→Q (toExit e) a1 w1)→c.wp P Q a w
def HOps (P:Program) (G:Env) (b:Option Nat) (ops:Array Oper) (l:List Oper) (s:St) (Φ:St→Prop):Prop:=
 ∀ (i:Nat) (N:Nat) (h0:AHeap) (pl0:Pl) (M0:Mem) (w0:World) (a:Act) (w:World) (Q:Exit→Act→World→Prop),Base b h0 pl0→(∀ j,ops[i+j]? = l[j]?)→SNow G N h0 pl0 M0 w0 s a w→
  (∀ s' a1 w1,Φ s'→SNow G N h0 pl0 M0 w0 s' a1 w1→Q .normal a1 w1)→wpOps P ops Q (List.range' i l.length) a w
def noCall:Caller:=fun _ _ _=>none
section
variable {P : Program} {G : Env} {b : Option Nat} {ops : Array Oper} {l : List Oper} {o : Oper} {s s' : St} {h h' : AHeap} {v : AV} {A A' : Fr} {call : Caller} {f : FuncId} {args : List AV} {c d : Code}
theorem noCall_ok:CallerOK P G noCall:=fun _ _ _ _ _ h=>by simp [noCall] at h
theorem HCall.mono {Ψ Ψ':AV→AHeap→Prop} (hh:HCall P G f args h Ψ) (hi : ∀ v h',Ψ v h'→Ψ' v h'):HCall P G f args h Ψ':=by
 intro pl M w vs hg hr hv
 rcases hh pl M w vs hg hr hv with ⟨h1,h2⟩ | ⟨cv,w',v,h',h1,h2,h3⟩
 ·exact .inl ⟨h1,Calls.mono h2 fun e w' ⟨cv,v,h',k1,k2,k3⟩=>⟨cv,v,h',k1,hi v h' k2,k3⟩⟩
 ·exact .inr ⟨cv,w',v,h',h1,hi v h' h2,h3⟩
theorem HCall.of (hc:CallerOK P G call) (e:call f args h=some (v,h')):HCall P G f args h (fun v1 h1=>v1=v∧h1=h'):=by
 intro pl M w vs hg hr hv
 rcases hc f args h v h' e pl M w vs hg hr hv with ⟨h1,h2⟩ | ⟨cv,w',h1,h2⟩
 ·exact .inl ⟨h1,Calls.mono h2 fun e w' ⟨cv,k1,k2⟩=>⟨cv,v,h',k1,⟨rfl,rfl⟩,k2⟩⟩
 ·exact .inr ⟨cv,w',v,h',h1,⟨rfl,rfl⟩,h2⟩
theorem HCode.mono {Φ Φ':AExit→St→Prop} (hh:HCode P G b c s Φ) (hi : ∀ e s',Φ e s'→Φ' e s'):HCode P G b c s Φ':=
 fun N h0 pl0 M0 w0 a w Q hb hs hQ=>hh N h0 pl0 M0 w0 a w Q hb hs fun e s' a1 w1 h1 h2=>hQ e s' a1 w1 (hi e s' h1) h2
theorem HCode.skip {Φ:AExit→St→Prop} (h:Φ .normal s):HCode P G b .skip s Φ:=
 fun _ _ _ _ _ a w _ _ hs hQ=>wp_skip (hQ .normal s a w h hs)
theorem HCode.label {Φ:AExit→St→Prop} {x} (h:Φ .normal s):HCode P G b (.label x) s Φ:=
 fun _ _ _ _ _ a w _ _ hs hQ=>wp_label (hQ .normal s a w h hs)
theorem HCode.exit {Φ:AExit→St→Prop} {id:Nat} (h:Φ (.exit id) s):HCode P G b (.exit id) s Φ:=
 fun _ _ _ _ _ a w _ _ hs hQ=>wp_exit (hQ (.exit id) s a w h hs)
theorem HCode.ret {Φ:AExit→St→Prop} (h:Φ .ret s):HCode P G b .ret s Φ:=
 fun _ _ _ _ _ a w _ _ hs hQ=>wp_ret (hQ .ret s a w h hs)
def Then (P:Program) (G:Env) (b:Option Nat) (d:Code) (Φ:AExit→St→Prop):AExit→St→Prop
 | .normal,s=>HCode P G b d s Φ
 | e,s=>Φ e s
theorem HCode.seq {Φ:AExit→St→Prop} (h:HCode P G b c s (Then P G b d Φ)):HCode P G b (.seq c d) s Φ:=by
 intro N h0 pl0 M0 w0 a w Q hb hs hQ
 refine wp_seq (h N h0 pl0 M0 w0 a w _ hb hs fun e s' a1 w1 h1 h2=>?_)
 cases e with
 | normal=>exact h1 N h0 pl0 M0 w0 a1 w1 Q hb h2 hQ
 | exit id=>exact hQ (.exit id) s' a1 w1 h1 h2
 | ret=>exact hQ .ret s' a1 w1 h1 h2
theorem HCode.cond {Φ:AExit→St→Prop} {x:Operand} {t:Bool} (hx:(opd G x).run s.tmps=some (.bool t)) (h1:t=true→HCode P G b c s Φ) (h2:t=false→HCode P G b d s Φ):HCode P G b (.cond x c d) s Φ:=by
 intro N h0 pl0 M0 w0 a w Q hb hs hQ
 obtain ⟨pl,M,g1,g2,g3,g4,g5⟩:=hs.ex
 have hv:=opd_ok g1 g3 hx
 generalize hq:a.eval x=y at hv
 cases hv
 cases t
 ·exact wp_cond_false hq (h2 rfl N h0 pl0 M0 w0 a w Q hb hs hQ)
 ·exact wp_cond_true hq (h1 rfl N h0 pl0 M0 w0 a w Q hb hs hQ)
def OutB (id:Nat) (Φ:AExit→St→Prop):AExit→St→Prop
 | .exit k,s=>if k=id then Φ .normal s else Φ (.exit k) s
 | e,s=>Φ e s
theorem HCode.block {Φ:AExit→St→Prop} {id:Nat} (h:HCode P G b c s (OutB id Φ)):HCode P G b (.block id c) s Φ:=by
 intro N h0 pl0 M0 w0 a w Q hb hs hQ
 refine wp_block (h N h0 pl0 M0 w0 a w _ hb hs fun e s' a1 w1 h1 h2=>?_)
 cases e with
 | normal=>exact hQ .normal s' a1 w1 h1 h2
 | ret=>exact hQ .ret s' a1 w1 h1 h2
 | exit k=>
  by_cases hk:k=id
  ·simp only [OutB,hk,if_true] at h1
   simp only [toExit,Exit.inBlock,hk,if_true]
   exact hQ .normal s' a1 w1 h1 h2
  ·simp only [OutB,hk,if_false] at h1
   simp only [toExit,Exit.inBlock,hk,if_false]
   exact hQ (.exit k) s' a1 w1 h1 h2
def Round (n:Nat) (I:Nat→St→Prop) (Φ:AExit→St→Prop):AExit→St→Prop
 | .normal,s=>∃ m,m<n∧I m s
 | e,s=>Φ e s
theorem HCode.loop {Φ:AExit→St→Prop} (I:Nat→St→Prop) (n:Nat) (h0:I n s) (hI : ∀ n s,I n s→HCode P G b c s (Round n I Φ)):HCode P G b (.loop c) s Φ:=by
 intro N hp0 pl0 M0 w0 a w Q hb hs hQ
 have key : ∀ (n m:Nat) (s:St) (a:Act) (w:World),n<m→I n s→SNow G N hp0 pl0 M0 w0 s a w→Code.rounds P c Q m a w:=by
  intro n
  induction n using Nat.strongRecOn with
  | _ n ih=>
   intro m s a w hm hi hs
   cases m with
   | zero=>omega
   | succ m=>
    rw [rounds_succ]
    refine hI n s hi N hp0 pl0 M0 w0 a w _ hb hs fun e s' a1 w1 h1 h2=>?_
    cases e with
    | normal=>
     obtain ⟨k,hk,hi'⟩:=h1
     exact ih k hk m s' a1 w1 (by omega) hi' h2
    | exit id=>exact hQ (.exit id) s' a1 w1 h1 h2
    | ret=>exact hQ .ret s' a1 w1 h1 h2
 exact wp_loop_rounds (n+1) (key n (n+1) s a w (Nat.lt_succ_self n) h0 hs)
theorem HCode.scope {Φ:AExit→St→Prop} (h:HCode P G b c s Φ):HCode P G b (.scope c) s Φ:=by
 intro N h0 pl0 M0 w0 a w Q hb hs hQ
 refine wp_scope_straight (h N h0 pl0 M0 w0 a w _ hb hs fun e s' a1 w1 h1 h2=>?_)
 cases e <;> exact hQ _ s' a1 w1 h1 h2
theorem HCode.run (hm:P.follows .mixedOrders=true) (hc:CallerOK P G call) {n:Nat} {e:AExit} {Φ:AExit→St→Prop} (hr:(evCode P G n c).run call s=some (e,s')) (h:Φ e s'):HCode P G b c s Φ:=
 fun N h0 pl0 M0 w0 a w Q _ hs hQ=>code_ok hc (draw_ok hm hc) n c s e s' a w Q hr hs fun a1 w1 h1=>hQ e s' a1 w1 h h1
theorem HCode.region {Φ:AExit→St→Prop} {id:Nat} (h:HOps P G b ops ops.toList s (Φ .normal)):HCode P G b (.region id ops false) s Φ:=by
 intro N h0 pl0 M0 w0 a w Q hb hs hQ
 refine wp_region ?_
 rw [List.range_eq_range']
 have hlen:ops.size=ops.toList.length:=by simp
 rw [hlen]
 exact h 0 N h0 pl0 M0 w0 a w Q hb (fun j=>by simp) hs fun s' a1 w1 h1 h2=>hQ .normal s' a1 w1 h1 h2
theorem HOps.nil {Φ:St→Prop} (h:Φ s):HOps P G b ops [] s Φ:=
 fun _ _ _ _ _ _ a w _ _ _ hs hQ=>hQ s a w h hs
theorem HOps.one {Φ:St→Prop} (hc:CallerOK P G call) (e:stepR call (oneOper P G ops o) s some=some s') (h:HOps P G b ops l s' Φ):HOps P G b ops (o::l) s Φ:=by
 intro i N h0 pl0 M0 w0 a w Q hb hl hs hQ
 have ho:ops[i]? = some o:=by simpa using hl 0
 simp only [List.length_cons,List.range'_succ,wpOps,ho]
 refine oper_ok (K:=wpOps P ops Q (List.range' (i+1) l.length)) hc hs e fun s1 a1 w1 h1 h2=>?_
 cases h2
 exact h (i+1) N h0 pl0 M0 w0 a1 w1 Q hb (fun j=>by have:=hl (j+1);simpa [Nat.add_assoc,Nat.add_comm 1 j] using this) h1 hQ
theorem stepR_split {r:ROper} {k:St→Option St} (e:stepR call r s k=some s') : ∃ s1,stepR call r s some=some s1∧k s1=some s':=by
 have finS : ∀ x:Option (AV × AHeap),fin s.tmps r.dst k x=some s'→∃ s1,fin s.tmps r.dst some x=some s1∧k s1=some s':=by
  intro x e
  unfold fin at e ⊢
  split at e
  ·split at e
   ·rename_i q;exact ⟨_,by simp [q],e⟩
   ·simp at e
  ·simp at e
 unfold stepR at e ⊢
 cases q:guardR s.tmps r.g with
 | none=>rw [q] at e;simp at e
 | some x=>
  rw [q] at e
  cases x
  ·exact finS _ e
  ·exact finS _ e
theorem HOps.run {Φ:St→Prop} (hc:CallerOK P G call) : ∀ {l1:List Oper} {s:St},(runOps P G ops l1).run call s=some s'→HOps P G b ops l s' Φ→HOps P G b ops (l1++l) s Φ
 | [],s,e,h=>by simp [runOps] at e;subst e;exact h
 | o::r,s,e,h=>by
  simp only [runOps] at e
  obtain ⟨s1,e1,e2⟩:=stepR_split e
  exact HOps.one hc e1 (HOps.run hc e2 h)
theorem HOps.val {Φ:St→Prop} (hg:guardR s.tmps (guardDst ops o)=some true) (e:(opR P G o.op).run s.tmps s.heap=some (.val v h')) (hp:putA s.tmps o.dst v=some A') (h:HOps P G b ops l ⟨A',h'⟩ Φ):HOps P G b ops (o::l) s Φ:=by
 refine HOps.one (call:=noCall) noCall_ok ?_ h
 simp [stepR,oneOper,hg,e,behind,fin,hp]
theorem HOps.calls {Φ:St→Prop} {Ψ:AV→AHeap→Prop} (hg:guardR s.tmps (guardDst ops o)=some true) (e:(opR P G o.op).run s.tmps s.heap=some (.call f args)) (hf:HCall P G f args s.heap Ψ)
  (h : ∀ v h',Ψ v h'→∃ A',putA s.tmps o.dst v=some A'∧HOps P G b ops l ⟨A',h'⟩ Φ):HOps P G b ops (o::l) s Φ:=by
 intro i N h0 pl0 M0 w0 a w Q hb hl hs hQ
 have ho:ops[i]? = some o:=by simpa using hl 0
 obtain ⟨pl,M,g1,g2,g3,g4,g5⟩:=hs.ex
 simp only [List.length_cons,List.range'_succ,wpOps,ho]
 rw [guardR_ok g3 hg]
 simp only [if_true]
 left
 obtain ⟨vs,q1,q2⟩:=ok_call (P:=P) (w:=w) g1 g3 e
 have key : ∀ cv w' v h',Ψ v h'→After pl M s.heap w v h' cv w'→wpOps P ops Q (List.range' (i+1) l.length) (a.put o.dst cv) w':=by
  intro cv w' v h' hΨ ⟨pl',M',k1,k2,k3,k4⟩
  obtain ⟨A',e2,hh⟩:=h v h' hΨ
  obtain ⟨p1,p2⟩:=putA_ok (g3.mono k3.ext k3.mem) k1 (by rw [hs.n];exact hs.small) e2
  exact hh (i+1) N h0 pl0 M0 w0 _ w' Q hb (fun j=>by have:=hl (j+1);simpa [Nat.add_assoc,Nat.add_comm 1 j] using this)
   ⟨⟨pl',M',g1.mono k3.ext k3.mem,k2,p1,g4.trans k3 g5,Nat.le_trans g5 k4⟩,by rw [← hs.n];exact p2,hs.small⟩ hQ
 unfold Oper.wp
 rw [q2]
 rcases hf pl M w vs g1 g2 q1 with ⟨k1,k2⟩ | ⟨cv,w',v,h',k1,k2,k3⟩
 ·rw [k1]
  refine Calls.mono k2 fun en w'' ⟨cv,v,h',e1,e2,e3⟩=>?_
  subst e1
  exact key cv w'' v h' e2 e3
 ·rw [k1]
  exact key cv w' v h' k2 k3
structure SubSt (s' s:St):Prop where
 n:s'.tmps.n=s.tmps.n
 tmps : ∀ t v,s'.tmps.get t=some v→s.tmps.get t=some v
 hn:s.heap.n≤s'.heap.n
 objs : ∀ id o,s'.heap.get id=some o→s.heap.get id=some o
theorem SubSt.now {N:Nat} {h0:AHeap} {pl0:Pl} {M0:Mem} {w0:World} {a:Act} {w:World} (hS:SubSt s' s) (hs:SNow G N h0 pl0 M0 w0 s a w):SNow G N h0 pl0 M0 w0 s' a w:=by
 obtain ⟨⟨pl,M,g1,g2,g3,g4,g5⟩,hn,hsm⟩:=hs
 refine ⟨⟨pl,M,g1,⟨fun id p hp=>by have:=g2.dom id p hp;have:=hS.hn;omega,fun id p o hp hg=>g2.obj id p o hp (hS.objs id o hg),g2.blk,g2.inj,g2.imm,g2.sep⟩,⟨by rw [hS.n];exact g3.size,g3.defers,fun t v ht=>?_⟩,⟨g4.ext,g4.new,g4.mem,g4.size,g4.kept,g4.blks,fun id p hp hg=>?_,g4.stay,g4.memNew,g4.os,g4.tape,g4.out,g4.drawn⟩,Nat.le_trans g5 hS.hn⟩,by rw [hS.n];exact hn,hsm⟩
 ·have:=g3.at_ t v (hS.tmps t v ht)
  rw [hS.n];exact this
 ·cases hh:s'.heap.get id with
  | none=>rfl
  | some o=>have:=g4.live id p hp hg;rw [hS.objs id o hh] at this;cases this
theorem HOps.sub {Φ:St→Prop} (hS:SubSt s' s) (h:HOps P G b ops l s' Φ):HOps P G b ops l s Φ:=
 fun i N h0 pl0 M0 w0 a w Q hb hl hs hQ=>h i N h0 pl0 M0 w0 a w Q hb hl (hS.now hs) hQ
theorem HCode.sub {Φ:AExit→St→Prop} (hS:SubSt s' s) (h:HCode P G b c s' Φ):HCode P G b c s Φ:=
 fun N h0 pl0 M0 w0 a w Q hb hs hQ=>h N h0 pl0 M0 w0 a w Q hb (hS.now hs) hQ
theorem HCall.enter {hp : AHeap} {fn : Func} {Ψ : AV → AHeap → Prop} (pol : Nat) (hf : P.funcs[f]? = some fn) (hN : (fn.name == "runtime.NumGoroutine") = false) (hb : fn.body = some c) (hn : Nat.ble args.length fn.ntmps = true ∧ Nat.ble fn.ntmps 60000 = true)
  (h:HCode P G (some hp.n) c ⟨⟨fn.ntmps,argsFr fn.ntmps args 0 .nil⟩,hp⟩ fun e s=>(∀ id,e≠ .exit id)∧∃ v,oneOrTuple (resultsR P fn.results.toList s.tmps s.heap)=some v∧Ψ (leave pol hp.n v s.heap).1 (leave pol hp.n v s.heap).2):HCall P G f args hp Ψ:=by
 intro pl M w vs hg hr hv
 simp only [ble_iff,decide_eq_true_eq] at hn
 left
 simp only [beq_eq_false_iff_ne,ne_eq] at hN
 refine ⟨by simp [callFunc,hf,hN,hb],calls_of_wp hf hb ?_⟩
 have hs0:SNow G fn.ntmps hp pl M w ⟨⟨fn.ntmps,argsFr fn.ntmps args 0 .nil⟩,hp⟩ { tmps:=vs++Array.replicate (fn.ntmps - vs.size) undef,defers:= [] } w:=
  ⟨⟨pl,M,hg,hr,start_fr hv hn.1 hn.2,Step.refl _ _ _ _,Nat.le_refl _⟩,rfl,hn.2⟩
 refine h fn.ntmps hp pl M w _ w _ (fun m hb=>?_) hs0 fun e s a1 w1 h1 h2=>?_
 ·cases hb
  exact ⟨rfl,fun id p hq=>hr.dom id p hq⟩
 ·obtain ⟨hne,v,hres,hΨ⟩:=h1
  obtain ⟨pl1,M1,g1,g2,g3,g4,g5⟩:=h2.ex
  obtain ⟨cv,k1,k2⟩:=results_ok g2 g3 hres
  obtain ⟨pl2,M2,q1,q2,q3,q4⟩:=leave_ok pol hr g2 k2 g4 g5 (rfl:leave pol hp.n v s.heap=((leave pol hp.n v s.heap).1,(leave pol hp.n v s.heap).2))
  have fin:a1.defers = []∧∃ u,(results fn a1.tmps).run P w1 = .ok u w1∧∃ cv v h',Ending.returned u = .returned cv∧Ψ v h'∧After pl M hp w v h' cv w1:=
   ⟨g3.defers,cv,k1,cv,_,_,rfl,hΨ,pl2,M2,q1,q2,q3,q4⟩
  cases e with
  | exit id=>exact absurd rfl (hne id)
  | normal=>exact fin
  | ret=>exact fin
def GTop (G:Env):Prop:=∀ g x,G g=some x→x.top=0
theorem rep_none {pl:Pl} {M:Mem} {n:Nat} {g:Nat→Option AObj} {w:World} (hr:RepF pl M n g w):Rep (fun _=>none) M AHeap.none w:=
 ⟨fun _ _ h=>by simp at h,fun _ _ _ h=>by simp at h,fun _ _ h=>by simp at h,fun _ _ _ _ h=>by simp at h,hr.imm,fun _ _ h=>by simp at h⟩
theorem VRel.none {pl pl':Pl} {M:Mem} {x:Value} (h:VRel pl M v x) (ht:v.top=0):VRel pl' M v x:=
 h.agree (n:=0) (by omega) (fun _ _ h _=>absurd h (Nat.not_lt_zero _)) (fun _ _ h=>h)
theorem VRels.none {pl pl':Pl} {M:Mem} {xs:List AV} {ys:Array Value} (h:VRels pl M xs ys) (ht:AV.tops xs=0):VRels pl' M xs ys:=
 ⟨h.len,fun j y hj=>(h.at_ j y hj).none (by have:=tops_le.1 (Nat.le_of_eq ht) y (List.mem_of_getElem? hj);omega)⟩
theorem GOk.none {pl pl':Pl} {M:Mem} (hG:GTop G) (h:GOk G pl M):GOk G pl' M:=fun g x hg=>
 ⟨(h g x hg).1.none (by have:=hG g x hg;simp [AV.top,AV.tops,this];rfl),(h g x hg).2⟩
theorem none_step {pl pl':Pl} {M M':Mem} {n m:Nat} {g:Nat→Option AObj} {w w':World} {h1:AHeap} (hr:RepF pl M n g w) (hr':Rep pl' M' h1 w') (hs:Step AHeap.none (fun _=>none) M w h1 pl' M' w') :
  RepF pl M' n g w'∧StepF m g pl M w g pl M' w':=by
 have kept : ∀ b,b<w.heap.size→w'.heap[b]? = w.heap[b]?:=fun b hb=>hs.kept b hb (fun id p h=>by simp at h)
 refine ⟨⟨hr.dom,fun id p o hp hg=>?_,fun id p hp=>Nat.lt_of_lt_of_le (hr.blk id p hp) hs.size,hr.inj,hr'.imm,fun id p hp=>?_⟩,⟨Ext.refl _,fun _ _ h=>h,hs.mem,hs.size,fun b hb _=>kept b hb,fun id p h=> .inl ⟨p,h,rfl⟩,fun _ _ _ h=>h,fun _ _ h _=>h,hs.memNew,hs.os,hs.tape,hs.out,hs.drawn⟩⟩
 ·rw [kept _ (hr.blk id p hp)]
  exact (hr.obj id p o hp hg).mono (Ext.refl _) hs.mem
 ·cases hM:M' p.blk with
  | none=>rfl
  | some c=>
   rcases hs.memNew _ c hM with k | k
   ·rw [hr.sep id p hp] at k;cases k
   ·have:=hr.blk id p hp;omega
theorem HCall.lift {Ψ:AV→AHeap→Prop} (hG:GTop G) (ht:AV.tops args=0) (h0:HCall P G f args AHeap.none Ψ) (hΨ : ∀ v h',Ψ v h'→v.top=0) (h:AHeap) :
  HCall P G f args h (fun v h'=>(∃ h1,Ψ v h1)∧h'=h):=by
 intro pl M w vs hg hr hv
 have fin : ∀ v h1 cv w',Ψ v h1→After (fun _=>none) M AHeap.none w v h1 cv w'→After pl M h w v h cv w':=by
  intro v h1 cv w' hp ⟨pl',M',k1,k2,k3,k4⟩
  obtain ⟨q1,q2⟩:=none_step (m:=h.n) hr k2 k3
  exact ⟨pl,M',k1.none (hΨ v h1 hp),q1,q2,Nat.le_refl _⟩
 rcases h0 (fun _=>none) M w vs (hg.none hG) (rep_none hr) (hv.none ht) with ⟨h1,h2⟩ | ⟨cv,w',v,h',h1,h2,h3⟩
 ·exact .inl ⟨h1,Calls.mono h2 fun e w' ⟨cv,v,h',k1,k2,k3⟩=>⟨cv,v,h,k1,⟨⟨h',k2⟩,rfl⟩,fin v h' cv w' k2 k3⟩⟩
 ·exact .inr ⟨cv,w',v,h,h1,⟨⟨h',h2⟩,rfl⟩,fin v h' cv w' h2 h3⟩
def HPure (P:Program) (G:Env) (f:FuncId) (args:List AV) (v:AV):Prop:=∀ h,HCall P G f args h (fun v1 h1=>v1=v∧h1=h)
theorem HPure.of0 (hG:GTop G) (ht:AV.tops args=0) (hv:v.top=0) (h0:HCall P G f args AHeap.none (fun v1 _=>v1=v)):HPure P G f args v:=fun h=>
 (HCall.lift hG ht h0 (fun v1 _ e=>by rw [e];exact hv) h).mono fun v1 h1 ⟨⟨_,e1⟩,e2⟩=>⟨e1,e2⟩
theorem HPure.enter {fn : Func} (hG : GTop G) (ht : AV.tops args = 0) (hv : v.top = 0) (hf : P.funcs[f]? = some fn) (hN : (fn.name == "runtime.NumGoroutine") = false) (hb : fn.body = some c) (hn : Nat.ble args.length fn.ntmps = true ∧ Nat.ble fn.ntmps 60000 = true)
  (h:HCode P G (some 0) c ⟨⟨fn.ntmps,argsFr fn.ntmps args 0 .nil⟩,AHeap.none⟩ fun e s=>(∀ id,e≠ .exit id)∧∃ u,oneOrTuple (resultsR P fn.results.toList s.tmps s.heap)=some u∧(leave 0 0 u s.heap).1=v):HPure P G f args v:=
 HPure.of0 hG ht hv (HCall.enter 0 hf hN hb hn h)
end
end Go.Ev

namespace Go.Ev
open Go
def DGo (P:Program) (G:Env) (ops:Array Oper):Nat→List Oper→Fr→AHeap→List Rec→(Fr→AHeap→Prop)→Prop
 | _, [],F,h,_,Φ=>h.n≤1000000∧Φ F h
 | k,o::rest,F,h,rs,Φ=>∃ v h1 r F',DSpec P G ops o (o.looksAt ops) F h v h1 r∧noClash (maskAt (masksGo ops.toList 0 []) k) r rs k=true∧putA F o.dst v=some F'∧DGo P G ops (k+1) rest F' h1 (r::rs) Φ
section
variable {P : Program} {G : Env} {b : Option Nat} {ops : Array Oper} {l : List Oper} {o : Oper} {s s' : St} {h h' : AHeap} {v : AV} {A A' : Fr} {call : Caller} {f : FuncId} {args : List AV} {c d : Code}
theorem dgo_data : ∀ (l:List Oper) (k:Nat) (hs0:Nat→AHeap) (Fs0:Nat→Fr) (vs0:Nat→AV) (rc0:Nat→Rec) (Φ:Fr→AHeap→Prop),DGo P G ops k l (Fs0 k) (hs0 k) (recsTo rc0 k) Φ→
  ∃ (hs:Nat→AHeap) (Fs:Nat→Fr) (vs:Nat→AV) (rc:Nat→Rec),(∀ i,i≤k→hs i=hs0 i∧Fs i=Fs0 i)∧(∀ i,i<k→vs i=vs0 i∧rc i=rc0 i)∧
   (∀ j o,l[j]? = some o→DSpec P G ops o (o.looksAt ops) (Fs (k+j)) (hs (k+j)) (vs (k+j)) (hs (k+j+1)) (rc (k+j)))∧
   (∀ j o,l[j]? = some o→putA (Fs (k+j)) o.dst (vs (k+j))=some (Fs (k+j+1)))∧
   (∀ j o,l[j]? = some o→∀ i,i<k+j→Clash (rc i) (rc (k+j))→Nat.testBit (maskAt (masksGo ops.toList 0 []) (k+j)) i=true)∧
   (hs (k+l.length)).n≤1000000∧Φ (Fs (k+l.length)) (hs (k+l.length))
 | [],k,hs0,Fs0,vs0,rc0,Φ,e=>by
  obtain ⟨e1,e2⟩:=e
  exact ⟨hs0,Fs0,vs0,rc0,fun _ _=>⟨rfl,rfl⟩,fun _ _=>⟨rfl,rfl⟩,fun j d h=>by simp at h,fun j d h=>by simp at h,fun j d h=>by simp at h,by simpa using e1,by simpa using e2⟩
 | o::r,k,hs0,Fs0,vs0,rc0,Φ,e=>by
  obtain ⟨v,h',rec,F',ho,hcl,hp,e⟩:=e
  let hs1:Nat→AHeap:=fun i=>if i=k+1 then h' else hs0 i
  let Fs1:Nat→Fr:=fun i=>if i=k+1 then F' else Fs0 i
  let vs1:Nat→AV:=fun i=>if i=k then v else vs0 i
  let rc1:Nat→Rec:=fun i=>if i=k then rec else rc0 i
  have er:rec::recsTo rc0 k=recsTo rc1 (k+1):=by
   simp only [recsTo]
   congr 1
   ·simp [rc1]
   ·exact recsTo_congr fun i hi=>by simp [rc1,show i≠k by omega]
  have e2:DGo P G ops (k+1) r (Fs1 (k+1)) (hs1 (k+1)) (recsTo rc1 (k+1)) Φ:=by
   rw [← er];simpa [Fs1,hs1] using e
  obtain ⟨hs,Fs,vs,rc,a1,a2,a3,a4,a5,a6,a7⟩:=dgo_data r (k+1) hs1 Fs1 vs1 rc1 Φ e2
  have hk:=a1 k (by omega)
  have hk1:=a1 (k+1) (by omega)
  have hvk:=a2 k (by omega)
  simp only [hs1,Fs1,show ¬ k=k+1 by omega,if_false,if_true] at hk hk1
  simp only [vs1,rc1,if_true] at hvk
  refine ⟨hs,Fs,vs,rc,fun i hi=>?_,fun i hi=>?_,fun j d' hj=>?_,fun j d' hj=>?_,fun j d' hj i hi hc=>?_,?_,?_⟩
  ·have:=a1 i (by omega)
   simpa [hs1,Fs1,show i≠k+1 by omega] using this
  ·have:=a2 i (by omega)
   simpa [vs1,rc1,show i≠k by omega] using this
  ·match j,hj with
   | 0,hj=>
    simp at hj;subst hj
    simp only [Nat.add_zero]
    rw [hk.1,hk.2,hk1.1,hvk.1,hvk.2];exact ho
   | j+1,hj=>
    have:=a3 j d' (by simpa using hj)
    rw [show k+(j+1)=k+1+j by omega];exact this
  ·match j,hj with
   | 0,hj=>
    simp at hj;subst hj
    simp only [Nat.add_zero]
    rw [hk.2,hk1.2,hvk.1];exact hp
   | j+1,hj=>
    have:=a4 j d' (by simpa using hj)
    rw [show k+(j+1)=k+1+j by omega];exact this
  ·match j,hj with
   | 0,hj=>
    simp at hj;subst hj
    simp only [Nat.add_zero] at hi hc ⊢
    have hri:=(a2 i (by omega)).2
    simp only [rc1,show ¬ i=k by omega,if_false] at hri
    rw [hri,hvk.2] at hc
    have hcl':noClash (maskAt (masksGo ops.toList 0 []) k) rec (recsTo rc0 k) (recsTo rc0 k).length=true:=by rw [recsTo_len];exact hcl
    have:=noClash_ok hcl' (k - 1 - i) (rc0 i) (recsTo_get rc0 k i hi) hc
    rw [recsTo_len,show k - 1 - (k - 1 - i)=i by omega] at this
    exact this
   | j+1,hj=>
    rw [show k+(j+1)=k+1+j by omega] at hi hc ⊢
    exact a5 j d' (by simpa using hj) i hi hc
  ·simp only [List.length_cons];rw [show k+(r.length+1)=k+1+r.length by omega];exact a6
  ·simp only [List.length_cons];rw [show k+(r.length+1)=k+1+r.length by omega];exact a7
noncomputable def fitDraw (P:Program) (G:Env) (ops:Array Oper):Bool:=dstsOk ops.toList && Region.noSelect ops && (readyAll P G ops (masksGo ops.toList 0 []) ops.toList 0).isSome
theorem HCode.draw {Φ:AExit→St→Prop} {id:Nat} (hm:P.follows .mixedOrders=true) (hfit:fitDraw P G ops=true) (h:DGo P G ops 0 ops.toList s.tmps s.heap [] fun F hp=>Φ .normal ⟨F,hp⟩):HCode P G b (.region id ops true) s Φ:=by
 intro N h0 pl0 M0 w0 a w Q hb hsn hQ
 unfold fitDraw at hfit
 simp only [Bool.and_eq_true] at hfit
 obtain ⟨⟨hck1,hck2⟩,hck3⟩:=hfit
 obtain ⟨ds,hrd⟩:=Option.isSome_iff_exists.1 hck3
 obtain ⟨⟨pl,M,g1,g2,g3,g4,g5⟩,hn,hsm⟩:=hsn
 obtain ⟨hs,Fs,vs,rc,a1,_,D1,D2,D3,D4,D5⟩:=dgo_data ops.toList 0 (fun _=>s.heap) (fun _=>s.tmps) (fun _=>undefA) (fun _=>⟨⟨false, [],0,0⟩,⟨false, [],0,0⟩⟩) _ h
 obtain ⟨e1,e2⟩:=a1 0 (Nat.le_refl _)
 obtain ⟨hlen,hget⟩:=readyAll_get hrd
 have hl:ops.toList.length=ops.size:=by simp
 simp only [Nat.zero_add] at D1 D2 D3
 rw [Nat.zero_add,hl] at D4 D5
 have R:Reg P G noCall ops N hs Fs vs rc:=by
  refine ⟨hsm,by rw [e2];exact hn,fun t u h=>?_,D4,fun j o ho=>?_,fun j o ho=>?_,fun j o ho i hi hcl=>?_,fun j o ho=>?_,fun j o ho=>?_,fun i j oi oj t hi hj=>dstsOk_ok hck1 i j oi oj t (by simpa using hi) (by simpa using hj)⟩
  ·rw [e2] at h
   have:=(g3.at_ t u h).1
   omega
  ·exact D1 j o (by simpa using ho)
  ·exact D2 j o (by simpa using ho)
  ·exact D3 j o (by simpa using ho) i hi hcl
  ·obtain ⟨h1,_,_⟩:=hget j o (by simpa using ho)
   simpa using h1
  ·obtain ⟨_,h1,_⟩:=hget j o (by simpa using ho)
   simpa using h1
 refine wp_region_any hm (any_ok R (h0:=s.heap) (pl0:=pl) (M0:=M) (w0:=w) g1 g2.dom (by rw [e1];exact Nat.le_refl _) (fun a1 w1 h1=>?_) ops.size _ a _ (by simp) ?_ ?_)
 ·obtain ⟨pl1,M1,k1,k2,k3⟩:=h1
  refine hQ .normal _ a1 w1 D5 ⟨⟨pl1,M1,g1.mono k2.ext k2.mem,k1,k3,g4.trans k2 g5,?_⟩,(R.frame ops.size (Nat.le_refl _)).1,hsm⟩
  have:=R.mono (Nat.zero_le ops.size) (Nat.le_refl _)
  rw [e1] at this
  exact Nat.le_trans g5 this
 ·refine Nat.le_trans Array.count_le_size (by simp)
 ·have hno : ∀ j,¬ (Array.replicate ops.size false).getD j false=true:=by
   intro j h
   by_cases hj:j<ops.size <;> simp [Array.getD,hj] at h
  refine ⟨fun i hi=>absurd hi (hno i),⟨pl,M,s.heap.get,?_,?_,fun id m o hm ha _ hg=>?_,fun j hj _ id h1 h2=>?_,fun j o t _ h=>absurd h (hno j),fun t u _ hu=>?_⟩,by rw [g3.size];exact hn,g3.defers⟩
  ·refine ⟨fun id p hp=>?_,g2.obj,g2.blk,g2.inj,g2.imm,g2.sep⟩
   have h1:=g2.dom id p hp
   have:=R.mono (Nat.zero_le ops.size) (Nat.le_refl _)
   rw [e1] at this
   omega
  ·exact ⟨Ext.refl _,fun _ _ h=>h,fun _ _ h=>h,Nat.le_refl _,fun _ _ _=>rfl,fun id p h=> .inl ⟨p,h,rfl⟩,fun _ _ _ h=>h,fun _ _ h _=>h,fun _ _ h=> .inl h,rfl,rfl,rfl,Nat.le_succ _⟩
  ·have:=R.back (j:=0) m (Nat.zero_le _) hm (fun i _ h2 hw=>hno i (ha i h2 hw)) hg
   rw [e1] at this
   exact this
  ·cases hp:pl id with
   | none=>rfl
   | some p=>
    have h3:=g2.dom id p hp
    have:=R.mono (Nat.zero_le j) (by omega)
    rw [e1] at this
    omega
  ·rw [e2] at hu
   exact (g3.at_ t u hu).2
theorem DSpec.of (hc:CallerOK P G call) {F:Fr} {h1:AHeap} {r:Rec} (e:dOne call F h ⟨oneOper P G ops o,o.looksAt ops,footOf o.op,kindOf o.op,0⟩=some (v,h1,r)):DSpec P G ops o (o.looksAt ops) F h v h1 r:=
 dOne_ok hc rfl rfl e
theorem DSpec.pure (hG:GTop G) {F:Fr} (hg:guardR ⟨F.n,lookFr F (o.looksAt ops) .nil⟩ (guardDst ops o)=some true) (e:(opR P G o.op).run ⟨F.n,lookFr F (o.looksAt ops) .nil⟩ h=some (.call f args))
  (ht:AV.tops args=0) (hv:v.top=0) (hf:HPure P G f args v):DSpec P G ops o (o.looksAt ops) F h v h ⟨⟨false, [],0,0⟩,⟨false, [],0,0⟩⟩:=by
 refine ⟨Nat.le_refl _,fun _ _ _ h=>h,fun id h1 h2=>by omega,?_⟩
 intro nk n0 g pl M a w K Q hn0 hnk hbig hr hvis hU hG' hs hdf hF hK
 have hf0:FrRel pl M ⟨F.n,lookFr F (o.looksAt ops) .nil⟩ a:=lookFr_rel hs hdf hF
 rw [guardR_ok hf0 hg]
 simp only [if_true]
 left
 have hG2:GOk G pl M:=hG'.none hG
 obtain ⟨vs,q1,q2⟩:=ok_call (P:=P) (w:=w) hG2 hf0 e
 have fin : ∀ h1 cv w',After (fun _=>none) M AHeap.none w v h1 cv w'→K (a.put o.dst cv) w':=by
  intro h1 cv w' ⟨pl',M',k1,k2,k3,k4⟩
  obtain ⟨z1,z2⟩:=none_step (m:=n0) hr k2 k3
  exact hK cv w' pl M' g z1 z2 (k1.none hv) (Ext.refl _) (fun id h _=>h) (fun _ _=>rfl) (fun id o' hh=>absurd hh (noneHolds (ids:= [])))
 unfold Oper.wp
 rw [q2]
 rcases hf AHeap.none (fun _=>none) M w vs (hG2.none hG) (rep_none hr) (q1.none ht) with ⟨k1,k2⟩ | ⟨cv,w',v',h',k1,⟨rfl,rfl⟩,k3⟩
 ·rw [k1]
  refine Calls.mono k2 fun en w'' ⟨cv,v',h',e1,e2,e3⟩=>?_
  obtain ⟨rfl,rfl⟩:=e2
  subst e1
  exact fin _ cv w'' e3
 ·rw [k1]
  exact fin _ cv w' k3
end
end Go.Ev

namespace Go.Ev
open Go
noncomputable section
def putAll:List (Nat × AV)→Tr AV→Tr AV
 | [],t=>t
 | p::r,t=>putAll r (match Nat.blt p.1 60000 with | true=>t.set 16 p.1 p.2 | false=>t)
def mkFr (n:Nat) (L:List (Nat × AV)):Fr:=⟨n,putAll L .nil⟩
def objAll:List AObj→Nat→Tr AObj→Tr AObj
 | [],_,t=>t
 | o::r,i,t=>objAll r (i+1) (match Nat.blt i 1000000 with | true=>t.set 20 i o | false=>t)
def mkH (L:List AObj):AHeap:=⟨L.length,objAll L 0 .nil⟩
def getAll (A:Fr):List Nat→Option (List AV)
 | []=>some []
 | t::r=>match A.get t with
  | some v=>match getAll A r with | some vs=>some (v::vs) | none=>none
  | none=>none
def objsUp (h:AHeap):Nat→Nat→List AObj
 | 0,_=> []
 | k+1,i=>(match h.get i with | some o=>o | none=> .dead)::objsUp h k (i+1)
def pickC (n:Nat) (ts:List Nat):Option (AExit × St)→Option (AExit × List AV × List AObj)
 | some (x,s)=>match Nat.beq s.tmps.n n with
  | true=>match getAll s.tmps ts with
   | some vs=>some (x,vs,objsUp s.heap s.heap.n 0)
   | none=>none
  | false=>none
 | none=>none
def pickH (n:Nat) (ts:List Nat):Option (AExit × St)→Option (AExit × List AV × AHeap)
 | some (x,s)=>match Nat.beq s.tmps.n n with
  | true=>match getAll s.tmps ts with
   | some vs=>some (x,vs,s.heap)
   | none=>none
  | false=>none
 | none=>none
section
variable {P : Program} {G : Env} {b : Option Nat} {ops : Array Oper} {l : List Oper} {o : Oper} {s s' : St} {h h' : AHeap} {v : AV} {A A' : Fr} {call : Caller} {f : FuncId} {args : List AV} {c d : Code}
theorem putAll_get : ∀ {L:List (Nat × AV)} {t:Tr AV} {x:Nat} {v:AV},(putAll L t).get x=some v→(x,v)∈L∨t.get x=some v
 | [],t,x,v,h=> .inr h
 | p::r,t,x,v,h=>by
  simp only [putAll] at h
  rcases putAll_get h with h1 | h1
  ·exact .inl (List.mem_cons_of_mem _ h1)
  ·rw [blt_iff] at h1
   by_cases hlt:p.1<60000
   ·simp only [hlt,decide_true] at h1
    rcases Tr.get_set 16 t p.1 p.2 x v (Nat.lt_trans (Nat.succ_lt_succ hlt) (by decide)) h1 with ⟨rfl,rfl⟩ | ⟨_,h2⟩
    ·exact .inl (by simp)
    ·exact .inr h2
   ·simp only [hlt,decide_false] at h1
    exact .inr h1
theorem mkFr_get {n:Nat} {L:List (Nat × AV)} {x:Nat} {v:AV} (h:(mkFr n L).get x=some v):(x,v)∈L:=by
 rcases putAll_get (t:= .nil) h with h1 | h1
 ·exact h1
 ·rw [Tr.get_nil] at h1;cases h1
theorem putAll_append : ∀ (L K:List (Nat × AV)) (t:Tr AV),putAll (L++K) t=putAll K (putAll L t)
 | [],K,t=>rfl
 | p::r,K,t=>by simp only [List.cons_append,putAll];exact putAll_append r K _
theorem putA_mkFr {n t:Nat} {L:List (Nat × AV)} {v:AV} (ht:Nat.blt t n=true) (ht2:Nat.blt t 60000=true):putA (mkFr n L) (some t) v=some (mkFr n (L++ [(t,v)])):=by
 show (match Nat.blt t n with | true=>some (⟨n,(putAll L .nil).set 16 t v⟩:Fr) | false=>none)=_
 rw [ht]
 simp only [mkFr,putAll_append,putAll,ht2]
theorem objAll_get : ∀ {L:List AObj} {i:Nat} {t:Tr AObj} {x:Nat} {o:AObj},(objAll L i t).get x=some o→(i≤x∧L[x - i]? = some o)∨t.get x=some o
 | [],i,t,x,o,h=> .inr h
 | q::r,i,t,x,o,h=>by
  simp only [objAll] at h
  rcases objAll_get h with ⟨h1,h2⟩ | h1
  ·exact .inl ⟨by omega,by rw [show x - i=(x - (i+1))+1 by omega];simpa using h2⟩
  ·rw [blt_iff] at h1
   by_cases hlt:i<1000000
   ·simp only [hlt,decide_true] at h1
    rcases Tr.get_set 20 t i q x o (Nat.lt_trans (Nat.succ_lt_succ hlt) (by decide)) h1 with ⟨rfl,rfl⟩ | ⟨_,h2⟩
    ·exact .inl ⟨Nat.le_refl _,by simp⟩
    ·exact .inr h2
   ·simp only [hlt,decide_false] at h1
    exact .inr h1
theorem mkH_get {L:List AObj} {x:Nat} {o:AObj} (h:(mkH L).get x=some o):L[x]? = some o:=by
 obtain ⟨_,_,h3⟩:=AHeap.get_some.1 h
 rcases objAll_get (t:= .nil) h3 with ⟨_,h1⟩ | h1
 ·simpa using h1
 ·rw [Tr.get_nil] at h1;cases h1
theorem getAll_get : ∀ {ts:List Nat} {vs:List AV},getAll A ts=some vs→∀ t v,(t,v)∈ts.zip vs→A.get t=some v
 | [],vs,_,t,v,h=>by simp at h
 | x::r,vs,e,t,v,h=>by
  simp only [getAll] at e
  cases hx:A.get x with
  | none=>simp [hx] at e
  | some u=>
   cases hr:getAll A r with
   | none=>simp [hx,hr] at e
   | some us=>
    simp [hx,hr] at e
    subst e
    simp only [List.zip_cons_cons,List.mem_cons,Prod.mk.injEq] at h
    rcases h with ⟨rfl,rfl⟩ | h
    ·exact hx
    ·exact getAll_get hr t v h
theorem objsUp_len : ∀ (k i:Nat),(objsUp h k i).length=k
 | 0,_=>rfl
 | k+1,i=>by simp [objsUp,objsUp_len k (i+1)]
theorem objsUp_get : ∀ (k i j:Nat) (o:AObj),(objsUp h k i)[j]? = some o→h.get (i+j)=some o∨(h.get (i+j)=none∧o = .dead)
 | 0,i,j,o,e=>by simp [objsUp] at e
 | k+1,i,0,o,e=>by
  simp [objsUp] at e
  cases hq:h.get i with
  | none=>rw [hq] at e;simp at e;exact .inr ⟨rfl,e.symm⟩
  | some o'=>rw [hq] at e;simp at e;subst e;exact .inl rfl
 | k+1,i,j+1,o,e=>by
  simp only [objsUp,List.getElem?_cons_succ] at e
  rw [show i+(j+1)=i+1+j by omega]
  exact objsUp_get k (i+1) j o e
structure SubSt2 (s' s:St):Prop where
 n:s'.tmps.n=s.tmps.n
 tmps : ∀ t v,s'.tmps.get t=some v→s.tmps.get t=some v
 hn:s.heap.n≤s'.heap.n
 objs : ∀ id o,s'.heap.get id=some o→s.heap.get id=some o
theorem pickH_sub {n:Nat} {ts:List Nat} {x y:AExit} {s1:St} {vs:List AV} {hp:AHeap} (e:pickH n ts (some (x,s1))=some (y,vs,hp)):y=x∧SubSt ⟨mkFr n (ts.zip vs),hp⟩ s1:=by
 simp only [pickH] at e
 split at e
 ·rename_i hn
  rw [beq_iff] at hn
  simp only [decide_eq_true_eq] at hn
  cases hg:getAll s1.tmps ts with
  | none=>simp [hg] at e
  | some us=>
   simp [hg] at e
   obtain ⟨rfl,rfl,rfl⟩:=e
   exact ⟨rfl,hn.symm,fun t v h=>getAll_get hg t v (mkFr_get h),Nat.le_refl _,fun _ _ h=>h⟩
 ·simp at e
theorem SNow.objs {N:Nat} {h0:AHeap} {pl0:Pl} {M0:Mem} {w0:World} {a:Act} {w:World} {F:Fr} (hb:Base (some 0) h0 pl0) (hs:SNow G N h0 pl0 M0 w0 s a w) (hF:F.n=s.tmps.n) (hFt : ∀ t v,F.get t=some v→s.tmps.get t=some v) :
  SNow G N h0 pl0 M0 w0 ⟨F,mkH (objsUp s.heap s.heap.n 0)⟩ a w:=by
 obtain ⟨⟨pl,M,g1,g2,g3,g4,g5⟩,hn,hsm⟩:=hs
 obtain ⟨b1,b2⟩:=hb.zero
 have hlen:(mkH (objsUp s.heap s.heap.n 0)).n=s.heap.n:=by simp [mkH,objsUp_len]
 refine ⟨⟨pl,M,g1,⟨fun id p hp=>by rw [hlen];exact g2.dom id p hp,fun id p o hp hg=>?_,g2.blk,g2.inj,g2.imm,g2.sep⟩,⟨by rw [hF];exact g3.size,g3.defers,fun t v ht=>by rw [hF];exact g3.at_ t v (hFt t v ht)⟩,
  ⟨g4.ext,g4.new,g4.mem,g4.size,g4.kept,g4.blks,(fun id p hp hg=>by rw [b2] at hp;cases hp),g4.stay,g4.memNew,g4.os,g4.tape,g4.out,g4.drawn⟩,by rw [hlen];exact g5⟩,by rw [hF];exact hn,hsm⟩
 rcases objsUp_get _ _ _ _ (mkH_get hg) with h1 | ⟨_,rfl⟩
 ·exact g2.obj id p o hp (by simpa using h1)
 ·trivial
theorem HCode.pickH (hm:P.follows .mixedOrders=true) (hc:CallerOK P G call) (k n:Nat) (ts:List Nat) {x:AExit} {vs:List AV} {hp:AHeap} {Φ:AExit→St→Prop}
  (e:pickH n ts ((evCode P G k c).run call s)=some (x,vs,hp)) (h:Φ x ⟨mkFr n (ts.zip vs),hp⟩):HCode P G b c s Φ:=by
 cases hr:(evCode P G k c).run call s with
 | none=>rw [hr] at e;simp [Ev.pickH] at e
 | some r=>
  obtain ⟨y,s1⟩:=r
  rw [hr] at e
  obtain ⟨rfl,hS⟩:=pickH_sub e
  intro N h0 pl0 M0 w0 a w Q hb hs hQ
  exact code_ok hc (draw_ok hm hc) k c s x s1 a w Q hr hs fun a1 w1 h1=>hQ x _ a1 w1 h (hS.now h1)
theorem HCode.pick (hm:P.follows .mixedOrders=true) (hc:CallerOK P G call) (k n:Nat) (ts:List Nat) {x:AExit} {vs:List AV} {os:List AObj} {Φ:AExit→St→Prop}
  (e:pickC n ts ((evCode P G k c).run call s)=some (x,vs,os)) (h:Φ x ⟨mkFr n (ts.zip vs),mkH os⟩):HCode P G (some 0) c s Φ:=by
 cases hr:(evCode P G k c).run call s with
 | none=>rw [hr] at e;simp [pickC] at e
 | some r=>
  obtain ⟨y,s1⟩:=r
  rw [hr] at e
  simp only [pickC] at e
  split at e
  ·rename_i hn
   rw [beq_iff] at hn
   simp only [decide_eq_true_eq] at hn
   cases hg:getAll s1.tmps ts with
   | none=>simp [hg] at e
   | some us=>
    simp [hg] at e
    obtain ⟨rfl,rfl,rfl⟩:=e
    intro N h0 pl0 M0 w0 a w Q hb hs hQ
    exact code_ok hc (draw_ok hm hc) k c s y s1 a w Q hr hs fun a1 w1 h1=>hQ y _ a1 w1 h (h1.objs hb (F:=mkFr n (ts.zip us)) hn.symm fun t v ht=>getAll_get hg t v (mkFr_get ht))
  ·simp at e
def pickOps (n:Nat) (ts:List Nat):Option St→Option (List AV × AHeap)
 | some s=>match Nat.beq s.tmps.n n with
  | true=>match getAll s.tmps ts with
   | some vs=>some (vs,s.heap)
   | none=>none
  | false=>none
 | none=>none
theorem HOps.pick (hc:CallerOK P G call) {l1:List Oper} (n:Nat) (ts:List Nat) {vs:List AV} {hp:AHeap} {Φ:St→Prop} (e:pickOps n ts ((runOps P G ops l1).run call s)=some (vs,hp))
  (h:HOps P G b ops l ⟨mkFr n (ts.zip vs),hp⟩ Φ):HOps P G b ops (l1++l) s Φ:=by
 cases hr:(runOps P G ops l1).run call s with
 | none=>rw [hr] at e;simp [pickOps] at e
 | some s1=>
  rw [hr] at e
  have e:Ev.pickH n ts (some (.normal,s1))=some (.normal,vs,hp):=by
   simp only [pickOps] at e
   simp only [Ev.pickH]
   split at e
   ·rename_i hn
    cases hg:getAll s1.tmps ts with
    | none=>simp [hg] at e
    | some us=>simp [hg] at e;simp [e]
   ·simp at e
  exact HOps.run hc hr (HOps.sub (pickH_sub e).2 h)
theorem HOps.objs {Φ:St→Prop} (h:HOps P G (some 0) ops l ⟨s.tmps,mkH (objsUp s.heap s.heap.n 0)⟩ Φ):HOps P G (some 0) ops l s Φ:=
 fun i N h0 pl0 M0 w0 a w Q hb hl hs hQ=>h i N h0 pl0 M0 w0 a w Q hb hl (hs.objs hb rfl fun _ _ h=>h) hQ
theorem HCode.objs {Φ:AExit→St→Prop} (h:HCode P G (some 0) c ⟨s.tmps,mkH (objsUp s.heap s.heap.n 0)⟩ Φ):HCode P G (some 0) c s Φ:=
 fun N h0 pl0 M0 w0 a w Q hb hs hQ=>h N h0 pl0 M0 w0 a w Q hb (hs.objs hb rfl fun _ _ h=>h) hQ
end
end
end Go.Ev

namespace Go.Ev
open Go
section
variable {H : Type}
def memOf (w:World):Mem:=fun b=>match w.heap[b]? with | some (.cells c _ _)=>some c | _=>none
theorem memOf_some {w:World} {b:Nat} {c:Array Value} (h:memOf w b=some c) : ∃ t fr,w.heap[b]? = some (.cells c t fr):=by
 unfold memOf at h
 split at h
 ·rename_i c' t fr q
  cases h
  exact ⟨t,fr,q⟩
 ·cases h
theorem rep_start (w:World):Rep (fun _=>none) (memOf w) AHeap.none w:=
 ⟨fun _ _ h=>by simp at h,fun _ _ _ h=>by simp at h,fun _ _ h=>by simp at h,fun _ _ _ _ h=>by simp at h,fun _ _ h=>memOf_some h,fun _ _ h=>by simp at h⟩
def elemOf (ag:Bool):List AV→Option AV
 | xs=>match ag with
  | true=>some (.agg xs)
  | false=>match xs with
   | [x]=>some x
   | _=>none
def avList (f:DataW H→Option (List AV)) (ag:Bool) (sz:Nat):List (DataW H)→Option (List AV)
 | []=>some []
 | d::r=>match f d with
  | some xs=>match Nat.beq xs.length sz,elemOf ag xs,avList f ag sz r with
   | true,some x,some ys=>some (x::ys)
   | _,_,_=>none
  | none=>none
def avFields (P:Program) (f:TypeId→DataW H→Option (List AV)):List Field→List (DataW H)→Nat→Option (List AV)
 | [], [],_=>some []
 | x::fs,d::ds,off=>match f x.type d with
  | some xs=>match Nat.beq x.offset off && Nat.beq xs.length (P.cellsOf x.type),avFields P f fs ds (off+P.cellsOf x.type) with
   | true,some ys=>some (xs++ys)
   | _,_=>none
  | none=>none
 | _,_,_=>none
def avCells (f:DataW H→Option (List AV)) (sz:Nat):List (DataW H)→Option (List AV)
 | []=>some []
 | d::r=>match f d with
  | some xs=>match Nat.beq xs.length sz,avCells f sz r with
   | true,some ys=>some (xs++ys)
   | _,_=>none
  | none=>none
def fitLen (n:Nat):Option (List AV)→Option (List AV)
 | some xs=>match Nat.beq xs.length n with | true=>some xs | false=>none
 | none=>none
def avOf (P:Program):Nat→TypeId→DataW H→Option (List AV)
 | 0,_,_=>none
 | k+1,t,d=>
  match P.underlying t,d with
  | some .bool, .lit (.bool b)=>some [.bool b]
  | some (.int _), .lit (.int k n)=>some [.int k n]
  | some .string, .lit (.string s)=>some [.str s]
  | some (.slice _), .nil=>some [.nils]
  | some (.slice e), .slice es _=>match isAggB P e,avList (avOf P k e) ((isAggB P e).getD false) (P.cellsOf e) es,Nat.blt 0 (P.cellsOf e) with
   | some _,some xs,true=>some [.ps xs false]
   | _,_,_=>none
  | some (.struct fs), .agg ds=>fitLen (P.cellsOf t) (avFields P (avOf P k) fs.toList ds 0)
  | some (.array _ e), .agg ds=>fitLen (P.cellsOf t) (avCells (avOf P k e) (P.cellsOf e) ds)
  | _,_=>none
variable {enc : TypeId × Value → H} {P : Program} {w : World} {base : Nat} {spare : Nat → Bool} {held : Bool}
theorem VRels.appendL {pl:Pl} {M:Mem} {xs ys:List AV} {a b:List Value} (h:VRels pl M xs a.toArray) (k:VRels pl M ys b.toArray):VRels pl M (xs++ys) (a++b).toArray:=by
 have h1:=h.len
 have k1:=k.len
 simp only [List.size_toArray] at h1 k1
 refine ⟨by simp [h1,k1],fun j y hj=>?_⟩
 by_cases hlt:j<xs.length
 ·rw [List.getElem?_append_left hlt] at hj
  have:=h.at_ j y hj
  rw [Array.getD_eq_getD_getElem?] at this ⊢
  simp only [List.getElem?_toArray] at this ⊢
  rw [List.getElem?_append_left (by omega)]
  exact this
 ·rw [List.getElem?_append_right (by omega)] at hj
  have:=k.at_ _ y hj
  rw [Array.getD_eq_getD_getElem?] at this ⊢
  simp only [List.getElem?_toArray] at this ⊢
  rw [List.getElem?_append_right (by omega),← h1]
  exact this
theorem cells?_at {a:Addr} {n:Nat} {cs:List Value} (h:w.cells? base a n=some cs):cs.length=n∧∀ i,i<n→w.cell? (a.add i)=cs[i]?:=by
 unfold World.cells? at h
 split at h
 ·have key : ∀ (l:List Nat) (cs:List Value),(l.mapM fun i=>w.cell? (a.add i))=some cs→cs.length=l.length∧∀ (i j:Nat),l[i]? = some j→w.cell? (a.add j)=cs[i]?:=by
   intro l
   induction l with
   | nil=>intro cs h;simp at h;subst h;exact ⟨rfl,fun i j h=>by simp at h⟩
   | cons x r ih=>
    intro cs h
    simp only [List.mapM_cons,Option.bind_eq_bind,Option.bind_eq_some_iff,Option.pure_def,Option.some.injEq] at h
    obtain ⟨v,h1,vs,h2,rfl⟩:=h
    obtain ⟨k1,k2⟩:=ih vs h2
    refine ⟨by simp [k1],fun i j hij=>?_⟩
    cases i with
    | zero=>simp at hij;subst hij;simpa using h1
    | succ i=>simpa using k2 i j (by simpa using hij)
  obtain ⟨k1,k2⟩:=key _ _ h
  exact ⟨by simpa using k1,fun i hi=>k2 i i (by simp [hi])⟩
 ·cases h
theorem cell?_mem {a:Addr} {v:Value} (h:w.cell? a=some v):a.spot=none∧∃ c,memOf w a.block=some c∧c[a.off]? = some v:=by
 unfold World.cell? at h
 unfold memOf
 split at h
 ·rename_i c t fr q
  split at h
  ·cases h
  ·rename_i hs
   exact ⟨by simpa using hs,c,by rw [q],h⟩
 ·cases h
theorem fitLen_some {n:Nat} {o:Option (List AV)} {xs:List AV} (h:fitLen n o=some xs):o=some xs∧xs.length=n:=by
 cases o with
 | none=>simp [fitLen] at h
 | some ys=>
  simp only [fitLen,beq_iff] at h
  by_cases q:ys.length=n
  ·simp [q] at h;subst h;exact ⟨rfl,q⟩
  ·simp [q] at h
theorem elemOf_cells {ag:Bool} {xs:List AV} {x:AV} (h:elemOf ag xs=some x) (hs : ∀ y,y∈xs→scalB y=true):x.cells=xs∧Sc x:=by
 unfold elemOf at h
 cases ag with
 | true=>
  simp at h
  subst h
  exact ⟨rfl,hs⟩
 | false=>
  simp only [] at h
  split at h
  ·cases h
   have h1:=hs x (by simp)
   have e:x.cells = [x]:=by cases x <;> simp_all [scalB,AV.cells]
   exact ⟨e,fun z hz=>by rw [e] at hz;simp at hz;subst hz;exact h1⟩
  ·cases h
theorem avFields_rel {f:TypeId→DataW H→Option (List AV)} {tr:TypeId→List Value→Option (DataW H × List MemPlace)} {pl:Pl} {M:Mem} {cs:List Value}
  (ih : ∀ t cs d p xs,f t d=some xs→tr t cs=some (d,p)→VRels pl M xs cs.toArray∧∀ x,x∈xs→scalB x=true) :
  ∀ (fs:List Field) (ds:List (DataW H × List MemPlace)) (off:Nat) (xs:List AV),avFields P f fs (ds.map (·.1)) off=some xs→(∀ (i:Nat) (x:Field),fs[i]? = some x→tr x.type ((cs.drop x.offset).take (P.cellsOf x.type))=ds[i]?)→off+xs.length=cs.length→
   VRels pl M xs (cs.drop off).toArray∧∀ x,x∈xs→scalB x=true
 | [], [],off,xs,e,_,hl=>by
  simp [avFields] at e
  subst e
  simp only [List.length_nil,Nat.add_zero] at hl
  refine ⟨⟨by simp;omega,fun j y h=>by simp at h⟩,fun x h=>by simp at h⟩
 | [],_::_,_,_,e,_,_=>by simp [avFields] at e
 | _::_, [],_,_,e,_,_=>by simp [avFields] at e
 | x::fs,d::ds,off,xs,e,h,hl=>by
  simp only [List.map_cons,avFields] at e
  cases hf:f x.type d.1 with
  | none=>rw [hf] at e;simp at e
  | some ys=>
   rw [hf] at e
   simp only [] at e
   cases hr:avFields P f fs (ds.map (·.1)) (off+P.cellsOf x.type) with
   | none=>rw [hr] at e;simp at e
   | some zs=>
    rw [hr] at e
    simp only [beq_iff] at e
    by_cases q:x.offset=off∧ys.length=P.cellsOf x.type
    ·obtain ⟨q1,q2⟩:=q
     simp [q1,q2] at e
     subst e
     simp only [List.length_append] at hl
     have h0:=h 0 x rfl
     simp only [List.getElem?_cons_zero] at h0
     obtain ⟨k1,k2⟩:=ih _ _ d.1 d.2 ys hf h0
     obtain ⟨k3,k4⟩:=avFields_rel ih fs ds (off+P.cellsOf x.type) zs hr (fun i y hy=>by simpa using h (i+1) y (by simpa using hy)) (by omega)
     rw [q1] at k1
     have e2:cs.drop off=(cs.drop off).take (P.cellsOf x.type)++cs.drop (off+P.cellsOf x.type):=by
      rw [← List.drop_drop,List.take_append_drop]
     rw [e2]
     exact ⟨k1.appendL k3,fun y hy=>(List.mem_append.1 hy).elim (k2 y) (k4 y)⟩
    ·exfalso
     rcases Classical.not_and_iff_not_or_not.1 q with q | q <;> simp [q] at e
theorem avCells_rel {f:DataW H→Option (List AV)} {tr:List Value→Option (DataW H × List MemPlace)} {sz:Nat} {pl:Pl} {M:Mem} {cs:List Value}
  (ih : ∀ cs d p xs,f d=some xs→tr cs=some (d,p)→VRels pl M xs cs.toArray∧∀ x,x∈xs→scalB x=true) :
  ∀ (ds:List (DataW H × List MemPlace)) (n:Nat) (xs:List AV),avCells f sz (ds.map (·.1))=some xs→(∀ i,i<ds.length→tr ((cs.drop ((n+i) * sz)).take sz)=ds[i]?)→n * sz+xs.length=cs.length→
   VRels pl M xs (cs.drop (n * sz)).toArray∧∀ x,x∈xs→scalB x=true
 | [],n,xs,e,_,hl=>by
  simp [avCells] at e
  subst e
  simp only [List.length_nil,Nat.add_zero] at hl
  refine ⟨⟨by simp;omega,fun j y h=>by simp at h⟩,fun x h=>by simp at h⟩
 | d::ds,n,xs,e,h,hl=>by
  simp only [List.map_cons,avCells] at e
  cases hf:f d.1 with
  | none=>rw [hf] at e;simp at e
  | some ys=>
   rw [hf] at e
   simp only [] at e
   cases hr:avCells f sz (ds.map (·.1)) with
   | none=>rw [hr] at e;simp at e
   | some zs=>
    rw [hr] at e
    simp only [beq_iff] at e
    by_cases q2:ys.length=sz
    ·simp [q2] at e
     subst e
     simp only [List.length_append] at hl
     have h0:=h 0 (by simp)
     simp only [List.getElem?_cons_zero,Nat.add_zero] at h0
     obtain ⟨k1,k2⟩:=ih _ d.1 d.2 ys hf h0
     obtain ⟨k3,k4⟩:=avCells_rel ih ds (n+1) zs hr (fun i hi=>by have:=h (i+1) (by simpa using hi);rw [show n+(i+1)=n+1+i by omega] at this;simpa using this) (by rw [Nat.succ_mul];omega)
     have e2:cs.drop (n * sz)=(cs.drop (n * sz)).take sz++cs.drop ((n+1) * sz):=by
      rw [Nat.succ_mul,← List.drop_drop,List.take_append_drop]
     rw [e2]
     exact ⟨k1.appendL k3,fun y hy=>(List.mem_append.1 hy).elim (k2 y) (k4 y)⟩
    ·simp [q2] at e
theorem avList_rel {f:DataW H→Option (List AV)} {ag:Bool} {sz:Nat} : ∀ (ds:List (DataW H)) (xs:List AV),avList f ag sz ds=some xs→xs.length=ds.length∧∀ (i:Nat) (x:AV),xs[i]? = some x→∃ d ys,ds[i]? = some d∧f d=some ys∧ys.length=sz∧elemOf ag ys=some x
 | [],xs,e=>by simp [avList] at e;subst e;exact ⟨rfl,fun i x h=>by simp at h⟩
 | d::r,xs,e=>by
  simp only [avList] at e
  cases hf:f d with
  | none=>rw [hf] at e;simp at e
  | some ys=>
   rw [hf] at e
   simp only [beq_iff] at e
   cases he:elemOf ag ys with
   | none=>rw [he] at e;simp at e
   | some x=>
    cases hr:avList f ag sz r with
    | none=>rw [he,hr] at e;simp at e
    | some zs=>
     rw [he,hr] at e
     by_cases q:ys.length=sz
     ·simp [q] at e
      subst e
      obtain ⟨k1,k2⟩:=avList_rel r zs hr
      refine ⟨by simp [k1],fun i y hy=>?_⟩
      cases i with
      | zero=>simp at hy;subst hy;exact ⟨d,ys,rfl,hf,q,he⟩
      | succ i=>simpa using k2 i y (by simpa using hy)
     ·simp [q] at e
theorem trod_rel : ∀ (k fuel:Nat) (t:TypeId) (cs:List Value) (d:DataW H) (p:List MemPlace) (xs:List AV),avOf P k t d=some xs→DataW.trod enc P w base spare held fuel t cs=some (d,p)→
  VRels (fun _=>none) (memOf w) xs cs.toArray∧∀ x,x∈xs→scalB x=true
 | 0,_,_,_,_,_,_,e,_=>by simp [avOf] at e
 | k+1,fuel,t,cs,d,p,xs,e,h=>by
  have one : ∀ {x:AV} {v:Value},VRel (fun _=>none) (memOf w) x v→scalB x=true→VRels (fun _=>none) (memOf w) [x] [v].toArray∧∀ y,y∈ [x]→scalB y=true:=by
   intro x v h1 h2
   refine ⟨⟨rfl,fun j y hj=>?_⟩,fun y hy=>by simp at hy;subst hy;exact h2⟩
   cases j with
   | zero=>simp at hj;subst hj;simpa [Array.getD] using h1
   | succ j=>simp at hj
  unfold avOf at e
  split at e
  ·rename_i b ht
   obtain ⟨b',rfl,h1⟩:=DataW.trod_bool ht h
   simp at h1 e
   obtain ⟨rfl,_⟩:=h1
   subst e
   exact one (.bool _) rfl
  ·rename_i k' k2 n ht
   obtain ⟨n',rfl,h1,_⟩:=DataW.trod_int ht h
   simp at h1 e
   obtain ⟨⟨rfl,rfl⟩,_⟩:=h1
   subst e
   exact one (.int _ _) rfl
  ·rename_i s ht
   obtain ⟨s',rfl,h1,_⟩:=DataW.trod_string ht h
   simp at h1 e
   obtain ⟨rfl,_⟩:=h1
   subst e
   exact one (.str _) rfl
  ·rename_i e' ht
   simp at e
   subst e
   rcases DataW.trod_slice ht h with ⟨rfl,_⟩ | ⟨a,len,cap,elems,rest,n,_,_,h1,_⟩
   ·exact one .nils rfl
   ·simp at h1
  ·rename_i e' es sp ht
   rcases DataW.trod_slice ht h with ⟨_,h1⟩ | ⟨a,len,cap,elems,rest,n,rfl,rfl,h1,h2,h3,h4,h5,h6,_,_⟩
   ·simp at h1
   ·simp only [Prod.mk.injEq,DataW.slice.injEq] at h1
    obtain ⟨⟨rfl,rfl⟩,_⟩:=h1
    split at e
    ·rename_i ag ys hag hl hsz
     simp at e
     subst e
     rw [blt_iff] at hsz
     simp only [decide_eq_true_eq] at hsz
     obtain ⟨q1,q2⟩:=avList_rel _ _ hl
     have q1:ys.length=len:=by simpa [h5] using q1
     have el : ∀ (i:Nat) (x:AV),ys[i]? = some x→∃ cs:List Value,cs.length=P.cellsOf e'∧(∀ j,j<P.cellsOf e'→w.cell? ((a.add (i * P.cellsOf e')).add j)=cs[j]?)∧VRels (fun _=>none) (memOf w) x.cells cs.toArray∧x.cells.length=P.cellsOf e'∧Sc x:=by
      intro i x hx
      have hi:i<len:=by rw [← q1];exact (List.getElem?_eq_some_iff.1 hx).1
      obtain ⟨d,zs,k1,k2,k3,k4⟩:=q2 i x hx
      have k5:=h6 i hi
      rw [List.getElem?_map] at k1
      cases hel:elems[i]? with
      | none=>rw [hel] at k1;simp at k1
      | some y=>
       rw [hel] at k1 k5
       simp at k1
       subst k1
       simp only [Option.bind_eq_some_iff] at k5
       obtain ⟨cs,c1,c2⟩:=k5
       obtain ⟨z1,z2⟩:=cells?_at c1
       obtain ⟨r1,r2⟩:=trod_rel k n e' cs y.1 y.2 zs k2 c2
       obtain ⟨r3,r4⟩:=elemOf_cells k4 r2
       exact ⟨cs,z1,z2,by rw [r3];exact r1,by rw [r3];exact k3,r4⟩
     have addadd : ∀ i j:Nat,a.spot=none→(a.add i).add j=⟨a.block,a.off+i+j,none⟩:=by
      intro i j hs
      obtain ⟨blk,off,spot⟩:=a
      simp at hs
      subst hs
      by_cases hi:i=0 <;> by_cases hj:j=0 <;> simp [Addr.add,hi,hj]
     have spot:ys≠ []→a.spot=none:=by
      intro hne
      obtain ⟨x,hx⟩ : ∃ x,ys[0]? = some x:=by
       cases ys with
       | nil=>exact absurd rfl hne
       | cons x r=>exact ⟨x,rfl⟩
      obtain ⟨cs,c1,c2,_⟩:=el 0 x hx
      have:=c2 0 hsz
      rw [List.getElem?_eq_getElem (by omega)] at this
      simp only [Nat.zero_mul] at this
      have:=(cell?_mem this).1
      simpa [Addr.add] using this
     have cell : ∀ (i j:Nat) (x:AV),ys[i]? = some x→j<P.cellsOf e'→∃ c v,memOf w a.block=some c∧c[a.off+i * P.cellsOf e'+j]? = some v∧∀ y,x.cells[j]? = some y→VRel (fun _=>none) (memOf w) y v:=by
      intro i j x hx hj
      obtain ⟨cs,c1,c2,c3,c4,_⟩:=el i x hx
      have:=c2 j hj
      rw [List.getElem?_eq_getElem (by omega),addadd _ _ (spot (by intro h;rw [h] at hx;simp at hx))] at this
      obtain ⟨_,c,m1,m2⟩:=cell?_mem this
      refine ⟨c,_,m1,m2,fun y hy=>?_⟩
      have:=c3.at_ j y hy
      rw [Array.getD_eq_getD_getElem?] at this
      simp only [List.getElem?_toArray] at this
      rw [List.getElem?_eq_getElem (by omega)] at this
      exact this
     refine one ?_ rfl
     by_cases hne:ys = []
     ·subst hne
      simp at q1
      subst q1
      exact .ps (sz:=P.cellsOf e') (c:=#[]) (by simp) (fun h=>by cases h) (fun h=>absurd rfl h) (fun x h=>by simp at h) (fun i x j y h=>by simp at h)
     ·have hlen:0<ys.length:=List.length_pos_iff.2 hne
      obtain ⟨x0,hx0⟩ : ∃ x,ys[ys.length - 1]? = some x:=⟨ys[ys.length - 1],by simp⟩
      obtain ⟨c,v0,m1,m2,_⟩:=cell (ys.length - 1) (P.cellsOf e' - 1) x0 hx0 (by omega)
      have hc:=(Array.getElem?_eq_some_iff.1 m2).1
      have hfit:a.off+ys.length * P.cellsOf e'≤c.size:=by
       have h1:(ys.length - 1) * P.cellsOf e'+P.cellsOf e'=ys.length * P.cellsOf e':=by
        rw [← Nat.succ_mul];congr 1;omega
       omega
      have:=VRel.ps (pl:=fun _=>none) (M:=memOf w) (xs:=ys) (tight:=false) (a:=a) (cap:=cap) (sz:=P.cellsOf e') (c:=c) (by omega) (fun h=>by cases h) (fun _=>⟨spot hne,m1,hfit,hsz⟩)
       (fun x hx=>by
        obtain ⟨i,hi⟩:=List.mem_iff_getElem?.1 hx
        obtain ⟨_,_,_,_,r1,r2⟩:=el i x hi
        exact ⟨r1,r2⟩)
       (fun i x j y hx hy=>by
        obtain ⟨_,_,_,_,r1,_⟩:=el i x hx
        have hj:j<P.cellsOf e':=by rw [← r1];exact (List.getElem?_eq_some_iff.1 hy).1
        obtain ⟨c',v,n1,n2,n3⟩:=cell i j x hx hj
        rw [m1] at n1
        cases n1
        rw [Array.getD_eq_getD_getElem?,n2]
        exact n3 y hy)
      rw [q1] at this
      exact this
    ·cases e
  ·rename_i fs ds ht
   obtain ⟨e1,e2⟩:=fitLen_some e
   obtain ⟨zs,n,rfl,h1,h2,h3,h4⟩:=DataW.trod_struct ht h
   simp only [Prod.mk.injEq,DataW.agg.injEq] at h1
   obtain ⟨rfl,_⟩:=h1
   have:=avFields_rel (P:=P) (cs:=cs) (f:=avOf P k) (tr:=fun t cs=>DataW.trod enc P w base spare held n t cs) (fun t cs d p xs a b=>trod_rel k n t cs d p xs a b) fs.toList zs 0 xs e1 (fun i x hx=>h4 i x (by simpa using hx)) (by omega)
   simpa using this
  ·rename_i n0 e' ds ht
   obtain ⟨e1,e2⟩:=fitLen_some e
   obtain ⟨zs,n,rfl,h1,h2,h3,h4⟩:=DataW.trod_array ht h
   simp only [Prod.mk.injEq,DataW.agg.injEq] at h1
   obtain ⟨rfl,_⟩:=h1
   have:=avCells_rel (cs:=cs) (f:=avOf P k e') (tr:=fun cs=>DataW.trod enc P w base spare held n e' cs) (sz:=P.cellsOf e') (fun cs d p xs a b=>trod_rel k n e' cs d p xs a b) zs 0 xs e1 (fun i hi=>by rw [Nat.zero_add];exact h4 i (by omega)) (by omega)
   simpa using this
  ·cases e
end
end Go.Ev

namespace Go.Ev
open Go Go.ChangeShapes Go.RowKit
section
variable {H : Type} {enc : TypeId × Value → H} {P : Program} {G : Env} {W W' : World}
def envL:List (Nat × AV)→Env
 | []=>fun _=>none
 | p::r=>fun g=>match Nat.beq p.1 g with | true=>some p.2 | false=>envL r g
theorem envL_mem : ∀ {l:List (Nat × AV)} {g:Nat} {x:AV},envL l g=some x→(g,x)∈l
 | [],g,x,h=>by simp [envL] at h
 | p::r,g,x,h=>by
  simp only [envL,beq_iff] at h
  by_cases q:p.1=g
  ·simp [q] at h;subst h;subst q;simp
  ·simp [q] at h;exact List.mem_cons_of_mem _ (envL_mem h)
theorem gok_of_list {l:List (Nat × AV)} {pl:Pl} {M:Mem} (h : ∀ p,p∈l→GRel pl M p.1 p.2):GOk (envL l) pl M:=
 fun g x hg=>h (g,x) (envL_mem hg)
theorem gtop_of_list {l:List (Nat × AV)} (h:(l.all fun p=>Nat.beq p.2.top 0)=true):GTop (envL l):=fun g x hg=>by
 have:=List.all_eq_true.1 h _ (envL_mem hg)
 simpa [beq_iff] using this
theorem glob_rel {g:Nat} {cs:Array Value} {t:TypeId} {fr:Nat × Nat} {x:AV} (hc:W.heap[g]? = some (.cells cs t fr)) (h:VRels (fun _=>none) (memOf W) x.cells cs) (hs:Sc x) (hp:0<x.cells.length) :
  GRel (fun _=>none) (memOf W) g x:=by
 have hM:memOf W g=some cs:=by simp [memOf,hc]
 have hl:=h.len
 have:=VRel.pptr (pl:=fun _=>none) (M:=memOf W) (xs:= [x]) (i:=0) (off:=0) (a:=⟨g,0,none⟩) (sz:=x.cells.length) (c:=cs) ⟨rfl,hM,by simp;omega,hp⟩
  (fun y hy=>by simp at hy;subst hy;exact ⟨rfl,hs⟩) (by simp) (fun i y j z hy hz=>by
   cases i with
   | zero=>
    simp at hy;subst hy
    have:=h.at_ j z hz
    simpa using this
   | succ i=>simp at hy)
 exact ⟨by simpa using this,cs,hM,hl.symm⟩
theorem laid_rel {laid:List (String × DataW Unit)} {n:String} {d:DataW Unit} (k:Nat) {g:Nat} {t:TypeId} {xs:List AV} {x:AV} (h:laidMet P laid W) (hm:(n,d)∈laid) (hg:P.globalNamed n=some g) (ht:(P.globals[g]?).map (·.type)=some t)
  (ha:avOf P k t d=some xs) {ag:Bool} (he:elemOf ag xs=some x) (hp:Nat.blt 0 xs.length=true):GRel (fun _=>none) (memOf W) g x:=by
 obtain ⟨ps,hl,_,_⟩:=h
 have key : ∀ (l:List (String × DataW Unit)) (ps:List MemPlace),DataW.LaidVars P W l ps→(n,d)∈l→∃ g t cs fuel p,P.globalNamed n=some g∧(P.globals[g]?).map (·.type)=some t∧W.var? P n=some cs∧DataW.trod (fun _=>()) P W 0 (fun _=>true) false fuel t cs.toList=some (d,p):=by
  intro l
  induction l with
  | nil=>intro ps _ h;simp at h
  | cons q r ih=>
   obtain ⟨n',d'⟩:=q
   intro ps h hm
   obtain ⟨g,t,cs,fuel,p,q,h1,h2,h3,h4,h5,_⟩:=h
   rcases List.mem_cons.1 hm with e | hm
   ·cases e;exact ⟨g,t,cs,fuel,p,h1,h2,h3,h4⟩
   ·exact ih q h5 hm
 obtain ⟨g',t',cs,fuel,p,h1,h2,h3,h4⟩:=key _ _ hl hm
 rw [hg] at h1;cases h1
 rw [ht] at h2;cases h2
 obtain ⟨r1,r2⟩:=trod_rel k fuel t cs.toList d p xs ha h4
 obtain ⟨c1,c2⟩:=elemOf_cells he r2
 have hc : ∃ t fr,W.heap[g]? = some (.cells cs t fr):=by
  unfold World.var? at h3
  rw [hg] at h3
  simp only [Option.bind_some] at h3
  split at h3
  ·rename_i c t fr q;cases h3;exact ⟨t,fr,q⟩
  ·cases h3
 obtain ⟨t2,fr,hc⟩:=hc
 refine glob_rel hc ?_ c2 ?_
 ·rw [c1];simpa using r1
 ·rw [c1];simpa [blt_iff] using hp
theorem law_run {f : FuncId} {fn : Func} {c : Code} {args : List AV} {vs : Array Value} (hf : P.funcs[f]? = some fn) (hN : (fn.name == "runtime.NumGoroutine") = false) (hb : fn.body = some c)
  (hG:GOk G (fun _=>none) (memOf W)) (hv:VRels (fun _=>none) (memOf W) args vs) (h:HCall P G f args AHeap.none (fun v _=>v = .bool true)) :
  Calls P f vs W fun e W'=>e = .returned (.bool true)∧Below W.heap.size W W':=by
 have fin : ∀ cv v h' W',v = .bool true→After (fun _=>none) (memOf W) AHeap.none W v h' cv W'→cv = .bool true∧Below W.heap.size W W':=by
  intro cv v h' W' e ⟨pl',M',k1,k2,k3,k4⟩
  subst e
  cases k1
  exact ⟨rfl,k3.os,k3.tape,k3.out,k3.size,fun b hb=>k3.kept b hb fun id p h=>by simp at h⟩
 rcases h (fun _=>none) (memOf W) W vs hG (rep_start W) hv with ⟨h1,h2⟩ | ⟨cv,w',v,h',h1,h2,h3⟩
 ·exact Calls.mono h2 fun e w' ⟨cv,v,h',k1,k2,k3⟩=>by
   obtain ⟨rfl,z⟩:=fin cv v h' w' k2 k3
   exact ⟨k1,z⟩
 ·exfalso
  simp only [beq_eq_false_iff_ne,ne_eq] at hN
  have:(callFunc f vs).run P W = .ok (.enter f vs) W:=by simp [callFunc,hf,hN,hb]
  rw [this] at h1
  cases h1
theorem trodAll_below (hl:laidOutB P=true) (hb:Below W.heap.size W W') : ∀ {ts:List TypeId} {vs:List Value} {ds:List (DataW H)} {ps:List MemPlace},(ts.all fun t=>P.readableRec t && decide (t<P.types.size))=true→DataW.TrodAll enc P W 0 (fun _=>true) true ts vs ds ps→(∀ x∈ps,x.block<W.heap.size)→
  DataW.TrodAll enc P W' 0 (fun b=>decide (b<W.heap.size)) true ts vs ds ps
 | [], [], [],_,_,h,_=>h
 | t::ts,v::vs,d::ds,ps,hr,h,hlt=>by
  obtain ⟨p,q,h1,h2,rfl⟩:=h
  simp only [List.all_cons,Bool.and_eq_true,decide_eq_true_eq] at hr
  exact ⟨p,q,hb.trod hl hr.1.1 hr.1.2 h1 (fun x hx=>hlt x (List.mem_append.2 (.inl hx))),trodAll_below hl hb hr.2 h2 (fun x hx=>hlt x (List.mem_append.2 (.inr hx))),rfl⟩
 | [],_::_,_,_,_,h,_=>by simp [DataW.TrodAll] at h
 | [], [],_::_,_,_,h,_=>by simp [DataW.TrodAll] at h
 | _::_, [],_,_,_,h,_=>by simp [DataW.TrodAll] at h
 | _::_,_::_, [],_,_,h,_=>by simp [DataW.TrodAll] at h
theorem law_post {f:Func} {s:ChangeSpec} {args:Array Value} {ds gs:List (DataW H)} {before:List MemPlace} {tb:TypeId} (hl:laidOutB P=true) (hr:(f.params.toList.all fun t=>P.readableRec t && decide (t<P.types.size))=true)
  (hvars:s.vars = []) (hfn:s.fn H (ds++gs) = { results:= [.lit (.bool true)],args:=ds }) (hres:f.resultTypes.toList = [tb]) (htb:P.underlying tb=some .bool)
  (hW:DataW.Whole enc P f.params.toList s.vars false W args.toList ds gs before) (hb:Below W.heap.size W W'):s.post enc P f false true false false W args (.bool true) W':=by
 have hlt:=hW.lt
 have hW0:=hW
 obtain ⟨p,q,hA,hV,rfl,hz,_⟩:=hW
 have hV':=hV
 rw [hvars] at hV'
 obtain ⟨rfl,rfl⟩:=trodVars_none hV'
 simp only [List.append_nil] at hlt hz hfn
 have hsz:f.resultTypes.size=1:=by rw [← Array.length_toList,hres];rfl
 refine ⟨ds, [],p++ [], [],p, [],hW0,?_,?_,?_,hb.frame _,fun h=>by cases h⟩
 ·rw [List.append_nil,hfn,hres,hsz]
  exact trodAll_mk1 (shut_bool htb true)
 ·rw [List.append_nil,hfn]
  exact trodAll_below hl hb hr hA hlt
 ·rw [List.append_nil,hfn,hvars]
  exact rfl
end
end Go.Ev

namespace Go.Ev
open Go
section
variable {P : Program} {G : Env} {b : Option Nat} {ops : Array Oper} {l : List Oper} {o : Oper} {s s' : St} {h h' h1 hv : AHeap} {v : AV} {A A' F : Fr} {call : Caller} {f : FuncId} {args : List AV} {c d : Code} {pl pl' : Pl} {M M' : Mem} {w w' : World} {a : Act} {r : Rec}
theorem shown_callH {nk n0:Nat} {g:Nat→Option AObj} {W:Nat→Prop} {o:Oper} (hr:RepF pl M nk g w) (hn0:n0≤hv.n) (hvg : ∀ id o,hv.get id=some o→g id=some o) (ho : ∀ id o,hv.get id=some o→o.top≤hv.n)
  (hf:FrRel (cutPl pl hv.n) M A a) (hg:GOk G (cutPl pl hv.n) M) {f:FuncId} {args:List AV} (e:(opR P G o.op).run A hv=some (.call f args)) (e2:HCall P G f args hv (fun v1 h1=>v1=v∧h1=h')) (hnk:h'.n=hv.n∨h'.n≤nk)
  (hU : ∀ id,hv.n≤id→id<h'.n→pl id=none) (W1 : ∀ id,id<hv.n→¬ W id→hv.get id≠none→h'.get id=hv.get id)
  (W2 : ∀ id,W id→id<hv.n→hv.get id≠none) (W3 : ∀ id,W id→id<h'.n) (W4 : ∀ id,hv.n≤id→id<h'.n→W id)
  {K:Act→World→Prop} {Q:Exit→Act→World→Prop}
  (hK : ∀ cv w' pl' M',RepF pl' M' nk (mergeG W g h'.get) w'→StepF n0 g pl M w (mergeG W g h'.get) pl' M' w'→VRel pl' M' v cv→Ext pl pl'→(∀ id,h'.n≤id→pl' id=pl id)→K (a.put o.dst cv) w') :
  o.wp P a w K Q:=by
 obtain ⟨vs,k1,k2⟩:=ok_call (P:=P) (w:=w) hg hf e
 have fin : ∀ cv w1,After (cutPl pl hv.n) M hv w v h' cv w1→K (a.put o.dst cv) w1:=by
  intro cv w1 ⟨pl1,M1,q3,q4,q5,q6⟩
  obtain ⟨r1,r2,r3,r4⟩:=merge hr hn0 hvg q4 q5 q6 hnk hU W1 W2 W3 W4
  exact hK cv w1 _ M1 r1 r2 (q3.mono r3 (fun _ _ h=>h)) r4 (fun id hid=>by simp [mergePl,Nat.not_lt.2 hid])
 unfold Oper.wp
 rw [k2]
 rcases e2 _ M w vs hg (shown_rep hr hvg ho) k1 with ⟨q1,q2⟩ | ⟨cv,w1,v',h'',q1,⟨rfl,rfl⟩,q2⟩
 ·rw [q1]
  refine Calls.mono q2 fun en w'' ⟨cv,v',h'',e1,hh,e3⟩=>?_
  obtain ⟨rfl,rfl⟩:=hh
  subst e1
  exact fin cv w'' e3
 ·rw [q1]
  exact fin cv w1 q2
theorem DSpec.callSame (hg:guardR ⟨F.n,lookFr F (o.looksAt ops) .nil⟩ (guardDst ops o)=some true) (e:(opR P G o.op).run ⟨F.n,lookFr F (o.looksAt ops) .nil⟩ h=some (.call f args))
  (ht:topsAt F h.n (o.looksAt ops)=true) (ho : ∀ id o',h.get id=some o'→o'.top≤h.n) (hf:HCall P G f args h (fun v1 h1=>v1=v∧h1=h)) :
  DSpec P G ops o (o.looksAt ops) F h v h ⟨⟨true, [],h.n,h.n⟩,⟨false, [],0,0⟩⟩:=by
 refine ⟨Nat.le_refl _,fun id o' _ hg1=>hg1,fun id k1 k2=>by omega,?_⟩
 intro nk n0 g pl M a w K Q hn0 hnk hbig hr hvis hU hG hs hdf hF hK
 have hf0:FrRel pl M ⟨F.n,lookFr F (o.looksAt ops) .nil⟩ a:=lookFr_rel hs hdf hF
 rw [guardR_ok hf0 hg]
 simp only [if_true]
 left
 have hvg : ∀ id o,h.get id=some o→g id=some o:=fun id o' hh=>hvis id o' (.inl ⟨rfl,(AHeap.get_some.1 hh).1⟩) hh
 have hfr:=cut_look (M:=M) hs hdf ht hF
 refine shown_callH (W:=fun _=>False) hr (Nat.le_refl _) hvg ho hfr hG e hf (.inl rfl) (fun id k1 k2=>by omega) (fun _ _ _ _=>rfl) (fun _ h=>h.elim) (fun _ h=>h.elim) (fun id k1 k2=>by omega) ?_
 intro cv w' pl' M' r1 r2 r3 r4 r5
 refine hK cv w' pl' M' _ r1 (r2.weaken hn0) r3 r4 (fun id hp hh=>?_) (fun id _=>mergeG_out (fun h=>h)) (fun id o' hyes=>absurd hyes (noneHolds (ids:= [])))
 rcases hh with hh | hh
 ·exact r2.new id hh hp
 ·rw [r5 id hh];exact hp
theorem DSpec.write (hg:guardR ⟨F.n,lookFr F (o.looksAt ops) .nil⟩ (guardDst ops o)=some true) {ids:List Nat} (h2:topsAt F h.n (o.looksAt ops)=true) (h3:objsAt h h.n ids=true)
  (e:dWriteEnd h ⟨h.n,onlyT h ids .nil⟩ ids ((opR P G o.op).run ⟨F.n,lookFr F (o.looksAt ops) .nil⟩ ⟨h.n,onlyT h ids .nil⟩)=some (v,h1,r)):DSpec P G ops o (o.looksAt ops) F h v h1 r:=by
 refine dWrite_ok (d:=⟨oneOper P G ops o,o.looksAt ops,footOf o.op,kindOf o.op,0⟩) (ids:=ids) rfl ?_ hg
 unfold dWrite
 simp only [h2,h3,Bool.and_true]
 exact e
mutual
def ren (ρ:Nat→Nat):AV→AV
 | .ptr id a b c=> .ptr (ρ id) a b c
 | .slice id a b c d=> .slice (ρ id) a b c d
 | .map id=> .map (ρ id)
 | .func fn a b=> .func fn (rens ρ a) (rens ρ b)
 | .iface t v=> .iface t (ren ρ v)
 | .agg cs=> .agg (rens ρ cs)
 | .tuple cs=> .tuple (rens ρ cs)
 | .ps xs t=> .ps (rens ρ xs) t
 | .ls xs=> .ls xs
 | .pptr xs i o=> .pptr (rens ρ xs) i o
 | .bool b=> .bool b
 | .int k n=> .int k n
 | .str s=> .str s
 | .nilp=> .nilp
 | .nils=> .nils
 | .nilm=> .nilm
 | .nilf=> .nilf
 | .nili=> .nili
def rens (ρ:Nat→Nat):List AV→List AV
 | []=> []
 | x::r=>ren ρ x::rens ρ r
end
def renEnts (ρ:Nat→Nat):List AEnt→List AEnt
 | []=> []
 | e::r=>⟨ren ρ e.key,ren ρ e.val,e.born⟩::renEnts ρ r
def renO (ρ:Nat→Nat):AObj→AObj
 | .row a b c xs=> .row a b c (rens ρ xs)
 | .map es c=> .map (renEnts ρ es) c
 | .miter m c s=> .miter (ren ρ m) c s
 | o=>o
theorem rens_map (ρ:Nat→Nat) : ∀ (xs:List AV),rens ρ xs=xs.map (ren ρ)
 | []=>rfl
 | x::r=>by simp [rens,rens_map ρ r]
theorem renEnts_map (ρ:Nat→Nat) : ∀ (xs:List AEnt),renEnts ρ xs=xs.map fun e=>⟨ren ρ e.key,ren ρ e.val,e.born⟩
 | []=>rfl
 | x::r=>by simp [renEnts,renEnts_map ρ r]
theorem mx_zero {a b:Nat} (h:Nat.mx a b=0):a=0∧b=0:=by
 have:=mx_le.1 (Nat.le_of_eq h)
 omega
mutual
theorem ren_plain (ρ:Nat→Nat) : ∀ (v:AV),v.top=0→ren ρ v=v
 | .ptr ..,h=>by simp [AV.top] at h
 | .slice ..,h=>by simp [AV.top] at h
 | .map _,h=>by simp [AV.top] at h
 | .func fn a b,h=>by simp only [AV.top] at h;simp only [ren,rens_plain ρ a (mx_zero h).1,rens_plain ρ b (mx_zero h).2]
 | .iface t v,h=>by simp only [AV.top] at h;simp only [ren,ren_plain ρ v h]
 | .agg cs,h=>by simp only [AV.top] at h;simp only [ren,rens_plain ρ cs h]
 | .tuple cs,h=>by simp only [AV.top] at h;simp only [ren,rens_plain ρ cs h]
 | .ps xs t,h=>by simp only [AV.top] at h;simp only [ren,rens_plain ρ xs h]
 | .ls xs,_=>rfl
 | .pptr xs i o,h=>by simp only [AV.top] at h;simp only [ren,rens_plain ρ xs h]
 | .bool b,_=>rfl
 | .int k n,_=>rfl
 | .str s,_=>rfl
 | .nilp,_=>rfl
 | .nils,_=>rfl
 | .nilm,_=>rfl
 | .nilf,_=>rfl
 | .nili,_=>rfl
theorem rens_plain (ρ:Nat→Nat) : ∀ (vs:List AV),AV.tops vs=0→rens ρ vs=vs
 | [],_=>rfl
 | x::r,h=>by
  simp only [AV.tops] at h
  simp only [rens,ren_plain ρ x (mx_zero h).1,rens_plain ρ r (mx_zero h).2]
end
theorem ren_cells (ρ:Nat→Nat) (v:AV):(ren ρ v).cells=v.cells.map (ren ρ):=by
 cases v <;> simp [ren,AV.cells,rens_map]
theorem ren_scal (ρ:Nat→Nat) (v:AV):scalB (ren ρ v)=scalB v:=by cases v <;> rfl
def renPl (ρ:Nat→Nat) (n:Nat) (pl:Pl):Pl:=fun id=>if id<n then pl (ρ id) else none
theorem renPl_at {ρ:Nat→Nat} {n id:Nat} {p:Place} (h:id<n) (hp:pl (ρ id)=some p):renPl ρ n pl id=some p:=by simp [renPl,h,hp]
theorem VRel.ren {ρ:Nat→Nat} {n:Nat} {u v:AV} {x:Value} (h:VRel pl M u x) (hu:u=Ev.ren ρ v) (ht:v.top≤n):VRel (renPl ρ n pl) M v x:=by
 have elem : ∀ {xs:List AV} {i:Nat} {z:AV},xs[i]? = some z→(xs.map (Ev.ren ρ))[i]? = some (Ev.ren ρ z):=by
  intro xs i z h;simp [h]
 have cel : ∀ {z y:AV} {j:Nat},z.cells[j]? = some y→(Ev.ren ρ z).cells[j]? = some (Ev.ren ρ y):=by
  intro z y j h;rw [ren_cells];simp [h]
 have tp : ∀ {xs:List AV} {i j:Nat} {z y:AV},AV.tops xs≤n→xs[i]? = some z→z.cells[j]? = some y→y.top≤n:=by
  intro xs i j x y h1 h2 h3
  exact cells_top (tops_le.1 h1 x (List.mem_of_getElem? h2)) (List.mem_of_getElem? h3)
 have sc : ∀ {xs:List AV} {sz:Nat},(∀ x,x∈xs.map (Ev.ren ρ)→x.cells.length=sz∧Sc x)→∀ x,x∈xs→x.cells.length=sz∧Sc x:=by
  intro xs sz h x hx
  obtain ⟨h1,h2⟩:=h (Ev.ren ρ x) (List.mem_map_of_mem hx)
  rw [ren_cells] at h1
  refine ⟨by simpa using h1,fun y hy=>?_⟩
  have:=h2 (Ev.ren ρ y) (by rw [ren_cells];exact List.mem_map_of_mem hy)
  rw [ren_scal] at this;exact this
 induction h generalizing v with
 | bool b=>cases v <;> simp [Ev.ren] at hu;subst hu;exact .bool _
 | int k n=>cases v <;> simp [Ev.ren] at hu;obtain ⟨rfl,rfl⟩:=hu;exact .int _ _
 | str s=>cases v <;> simp [Ev.ren] at hu;subst hu;exact .str _
 | nilp=>cases v <;> simp [Ev.ren] at hu;exact .nilp
 | ptr hp he ha=>
  cases v <;> simp [Ev.ren] at hu
  obtain ⟨rfl,rfl,rfl,rfl⟩:=hu
  simp only [AV.top] at ht
  exact .ptr (renPl_at (by omega) hp) he ha
 | pptr hm hs hi hc ih=>
  cases v <;> simp [Ev.ren] at hu
  obtain ⟨h1,rfl,rfl⟩:=hu
  rw [rens_map] at h1
  subst h1
  simp only [AV.top] at ht
  refine .pptr ⟨hm.1,hm.2.1,by simpa using hm.2.2.1,hm.2.2.2⟩ (sc hs) (by simpa using hi) (fun i z j y k1 k2=>ih i _ j _ (elem k1) (cel k2) rfl (tp ht k1 k2))
 | nils=>cases v <;> simp [Ev.ren] at hu;exact .nils
 | slice hp he hl hk ha=>
  cases v <;> simp [Ev.ren] at hu
  obtain ⟨rfl,rfl,rfl,rfl,rfl⟩:=hu
  simp only [AV.top] at ht
  exact .slice (renPl_at (by omega) hp) he hl hk ha
 | ps hl ht' hm hs hc ih=>
  cases v <;> simp [Ev.ren] at hu
  obtain ⟨h1,rfl⟩:=hu
  rw [rens_map] at h1
  subst h1
  simp only [AV.top] at ht
  have:=VRel.ps (pl:=renPl ρ n pl) (by simpa using hl) (by simpa using ht') (by simpa using hm) (sc hs) (fun i z j y k1 k2=>ih i _ j _ (elem k1) (cel k2) rfl (tp ht k1 k2))
  simpa using this
 | lsn=>
  cases v <;> simp [Ev.ren] at hu
  subst hu
  exact .lsn
 | lsp h ht0 ih=>
  cases v <;> simp [Ev.ren] at hu
  subst hu
  exact .lsp (ih (v:= .ps _ false) (by simp only [Ev.ren,rens_plain ρ _ ht0]) (by simp only [AV.top];omega)) ht0
 | nilm=>cases v <;> simp [Ev.ren] at hu;exact .nilm
 | map hp ha=>
  cases v <;> simp [Ev.ren] at hu
  subst hu
  simp only [AV.top] at ht
  exact .map (renPl_at (by omega) hp) ha
 | func h1 h2 h3 h4 ih1 ih2=>
  cases v <;> simp [Ev.ren] at hu
  obtain ⟨rfl,e1,e2⟩:=hu
  rw [rens_map] at e1 e2
  subst e1;subst e2
  simp only [AV.top,mx_le] at ht
  exact .func (by simpa using h1) (by simpa using h2) (fun j y hj=>ih1 j _ (elem hj) rfl (tops_le.1 ht.1 y (List.mem_of_getElem? hj))) (fun j y hj=>ih2 j _ (elem hj) rfl (tops_le.1 ht.2 y (List.mem_of_getElem? hj)))
 | nilf=>cases v <;> simp [Ev.ren] at hu;exact .nilf
 | iface _ ih=>
  cases v <;> simp [Ev.ren] at hu
  obtain ⟨rfl,e1⟩:=hu
  simp only [AV.top] at ht
  exact .iface (ih e1 ht)
 | nili=>cases v <;> simp [Ev.ren] at hu;exact .nili
 | agg h1 h2 _ ih=>
  cases v <;> simp [Ev.ren] at hu
  rw [rens_map] at hu
  subst hu
  simp only [AV.top] at ht
  refine .agg (by simpa using h1) (fun y hy=>?_) (fun j y hj=>ih j _ (elem hj) rfl (tops_le.1 ht y (List.mem_of_getElem? hj)))
  have:=h2 (Ev.ren ρ y) (List.mem_map_of_mem hy)
  rw [ren_scal] at this;exact this
 | tuple h1 _ ih=>
  cases v <;> simp [Ev.ren] at hu
  rw [rens_map] at hu
  subst hu
  simp only [AV.top] at ht
  exact .tuple (by simpa using h1) (fun j y hj=>ih j _ (elem hj) rfl (tops_le.1 ht y (List.mem_of_getElem? hj)))
theorem ObjRel.ren {ρ:Nat→Nat} {n:Nat} {o:AObj} {p:Place} {x:Option Obj} (h:ObjRel pl M p (renO ρ o) x) (ht:o.top≤n):ObjRel (renPl ρ n pl) M p o x:=by
 match o,x with
 | .dead,_=>trivial
 | .row sz op ep xs,some (.cells c t fr)=>
  obtain ⟨h1,h2,h3,h4,h5,h6,h7,h8⟩:=h
  rw [rens_map] at h3 h7 h8
  simp only [List.length_map] at h3 h7
  simp only [AObj.top] at ht
  refine ⟨h1,h2,h3,h4,h5,h6,h7,⟨by simpa using h8.fit,fun y hy=>?_,fun i z j y k1 k2=>?_⟩⟩
  ·obtain ⟨q1,q2⟩:=h8.elem (Ev.ren ρ y) (List.mem_map_of_mem hy)
   rw [ren_cells] at q1
   refine ⟨by simpa using q1,fun u hu=>?_⟩
   have:=q2 (Ev.ren ρ u) (by rw [ren_cells];exact List.mem_map_of_mem hu)
   rw [ren_scal] at this;exact this
  ·exact (h8.cell i (Ev.ren ρ z) j (Ev.ren ρ y) (by simp [k1]) (by rw [ren_cells];simp [k2])).ren rfl (cells_top (tops_le.1 ht z (List.mem_of_getElem? k1)) (List.mem_of_getElem? k2))
 | .map es clock,some (.map entries clock')=>
  obtain ⟨h1,h2,h3,h4⟩:=h
  rw [renEnts_map] at h3 h4
  simp only [AObj.top] at ht
  refine ⟨h1,h2,by simpa using h3,fun i e hi=>?_⟩
  obtain ⟨e',k1,k2,k3,k4⟩:=h4 i ⟨Ev.ren ρ e.key,Ev.ren ρ e.val,e.born⟩ (by simp [hi])
  have:=entTops_le.1 ht e (List.mem_of_getElem? hi)
  exact ⟨e',k1,k2.ren rfl this.1,k3.ren rfl this.2,k4⟩
 | .siter s pos,some (.stringIter s' pos')=>exact h
 | .miter m clock seen,some (.mapIter m' since seen' stepped)=>simp only [AObj.top] at ht;exact ⟨h.1,h.2.1,h.2.2.1.ren rfl ht,h.2.2.2⟩
end
end Go.Ev

namespace Go.Ev
open Go
noncomputable def objsAll (h:AHeap):Nat→Nat→Option (List AObj)
 | 0,_=>some []
 | k+1,i=>match h.get i with
  | some o=>match objsAll h k (i+1) with | some l=>some (o::l) | none=>none
  | none=>none
section
variable {P : Program} {G : Env} {b : Option Nat} {ops : Array Oper} {l : List Oper} {o : Oper} {s s' : St} {h h' : AHeap} {v : AV} {A A' : Fr} {call : Caller} {f : FuncId} {args : List AV} {c d : Code}
theorem objsAll_some : ∀ (k i:Nat) (os:List AObj),objsAll h k i=some os→os.length=k∧∀ (j:Nat) (o:AObj),os[j]? = some o→h.get (i+j)=some o
 | 0,i,os,e=>by simp [objsAll] at e;subst e;exact ⟨rfl,fun j o h=>by simp at h⟩
 | k+1,i,os,e=>by
  simp only [objsAll] at e
  cases hq:h.get i with
  | none=>rw [hq] at e;simp at e
  | some o'=>
   cases hr:objsAll h k (i+1) with
   | none=>rw [hq,hr] at e;simp at e
   | some r=>
    rw [hq,hr] at e
    simp at e
    subst e
    obtain ⟨h1,h2⟩:=objsAll_some k (i+1) r hr
    refine ⟨by simp [h1],fun j o hj=>?_⟩
    cases j with
    | zero=>simp at hj;subst hj;simpa using hq
    | succ j=>rw [show i+(j+1)=i+1+j by omega];exact h2 j o (by simpa using hj)
end
end Go.Ev

namespace Go.Ev
open Go
abbrev noIds:Ids:=⟨false, [],0,0⟩
abbrev rd (ids:List Nat):Rec:=⟨⟨false,ids,0,0⟩,noIds⟩
abbrev wr (ids:List Nat) (n m:Nat):Rec:=⟨⟨false,ids,0,0⟩,⟨false,ids,n,m⟩⟩
abbrev cl (n:Nat):Rec:=⟨⟨true, [],n,n⟩,noIds⟩
noncomputable abbrev dop (P:Program) (G:Env) (ops:Array Oper) (o:Oper):DOper:=⟨oneOper P G ops o,o.looksAt ops,footOf o.op,kindOf o.op,0⟩
def room2 (t n:Nat):Bool:=Nat.blt t n && Nat.blt t 60000
section
variable {P : Program} {G : Env} {b : Option Nat} {ops : Array Oper} {l rest : List Oper} {o : Oper} {h h' h1 : AHeap} {v : AV} {call : Caller} {f : FuncId} {args : List AV} {k n t : Nat} {L : List (Nat × AV)} {rs : List Rec} {Φ : Fr → AHeap → Prop}
theorem DGo.step {F F':Fr} {r:Rec} (hs:DSpec P G ops o (o.looksAt ops) F h v h1 r) (hcl:noClash (maskAt (masksGo ops.toList 0 []) k) r rs k=true) (hp:putA F o.dst v=some F') (next:DGo P G ops (k+1) rest F' h1 (r::rs) Φ) :
  DGo P G ops k (o::rest) F h rs Φ:=⟨v,h1,r,F',hs,hcl,hp,next⟩
theorem DGo.ev (hc:CallerOK P G call) (v:AV) (h1:AHeap) (r:Rec) (t:Nat) (hd:o.dst=some t) (ht:room2 t n=true) (e:dOne call (mkFr n L) h (dop P G ops o)=some (v,h1,r))
  (hcl:noClash (maskAt (masksGo ops.toList 0 []) k) r rs k=true) (next:DGo P G ops (k+1) rest (mkFr n (L++ [(t,v)])) h1 (r::rs) Φ):DGo P G ops k (o::rest) (mkFr n L) h rs Φ:=by
 simp only [room2,Bool.and_eq_true] at ht
 exact DGo.step (DSpec.of hc e) hcl (by rw [hd];exact putA_mkFr ht.1 ht.2) next
theorem DGo.rd (hc:CallerOK P G call) (v:AV) (ids:List Nat) (t:Nat) (hd:o.dst=some t) (ht:room2 t n=true) (e:dOne call (mkFr n L) h (dop P G ops o)=some (v,h,rd ids))
  (hcl:noClash (maskAt (masksGo ops.toList 0 []) k) (Ev.rd ids) rs k=true) (next:DGo P G ops (k+1) rest (mkFr n (L++ [(t,v)])) h (Ev.rd ids::rs) Φ):DGo P G ops k (o::rest) (mkFr n L) h rs Φ:=
 DGo.ev hc v h (Ev.rd ids) t hd ht e hcl next
theorem DGo.calls (t:Nat) (hd:o.dst=some t) (ht:room2 t n=true) (hg:guardR ⟨n,lookFr (mkFr n L) (o.looksAt ops) .nil⟩ (guardDst ops o)=some true) (e:(opR P G o.op).run ⟨n,lookFr (mkFr n L) (o.looksAt ops) .nil⟩ h=some (.call f args))
  (htop:topsAt (mkFr n L) h.n (o.looksAt ops)=true) (ho : ∀ id o',h.get id=some o'→o'.top≤h.n) (hf:HCall P G f args h (fun v1 h1=>v1=v∧h1=h))
  (hcl:noClash (maskAt (masksGo ops.toList 0 []) k) (cl h.n) rs k=true) (next:DGo P G ops (k+1) rest (mkFr n (L++ [(t,v)])) h (cl h.n::rs) Φ):DGo P G ops k (o::rest) (mkFr n L) h rs Φ:=by
 simp only [room2,Bool.and_eq_true] at ht
 exact DGo.step (DSpec.callSame hg e htop ho hf) hcl (by rw [hd];exact putA_mkFr ht.1 ht.2) next
theorem DGo.pure (hG:GTop G) (t:Nat) (hd:o.dst=some t) (ht:room2 t n=true) (hg:guardR ⟨n,lookFr (mkFr n L) (o.looksAt ops) .nil⟩ (guardDst ops o)=some true) (e:(opR P G o.op).run ⟨n,lookFr (mkFr n L) (o.looksAt ops) .nil⟩ h=some (.call f args))
  (hta:AV.tops args=0) (hv:v.top=0) (hf:HPure P G f args v)
  (hcl:noClash (maskAt (masksGo ops.toList 0 []) k) (Ev.rd []) rs k=true) (next:DGo P G ops (k+1) rest (mkFr n (L++ [(t,v)])) h (Ev.rd []::rs) Φ):DGo P G ops k (o::rest) (mkFr n L) h rs Φ:=by
 simp only [room2,Bool.and_eq_true] at ht
 exact DGo.step (DSpec.pure hG hg e hta hv hf) hcl (by rw [hd];exact putA_mkFr ht.1 ht.2) next
theorem DGo.wr (v:AV) (h1:AHeap) (ids:List Nat) (m:Nat) (t:Nat) (hd:o.dst=some t) (ht:room2 t n=true) (hg:guardR ⟨n,lookFr (mkFr n L) (o.looksAt ops) .nil⟩ (guardDst ops o)=some true)
  (htop:topsAt (mkFr n L) h.n (o.looksAt ops)=true) (ho:objsAt h h.n ids=true)
  (e:dWriteEnd h ⟨h.n,onlyT h ids .nil⟩ ids ((opR P G o.op).run ⟨n,lookFr (mkFr n L) (o.looksAt ops) .nil⟩ ⟨h.n,onlyT h ids .nil⟩)=some (v,h1,Ev.wr ids h.n m))
  (hcl:noClash (maskAt (masksGo ops.toList 0 []) k) (Ev.wr ids h.n m) rs k=true) (next:DGo P G ops (k+1) rest (mkFr n (L++ [(t,v)])) h1 (Ev.wr ids h.n m::rs) Φ):DGo P G ops k (o::rest) (mkFr n L) h rs Φ:=by
 simp only [room2,Bool.and_eq_true] at ht
 exact DGo.step (DSpec.write hg htop ho e) hcl (by rw [hd];exact putA_mkFr ht.1 ht.2) next
theorem DGo.done {F:Fr} (hn:Nat.ble h.n 1000000=true) (h0:Φ F h):DGo P G ops k [] F h rs Φ:=⟨by rw [ble_iff] at hn;simpa using hn,h0⟩
end
end Go.Ev
namespace Go.Ev
open Go
section
variable {P : Program} {G : Env} {b : Option Nat} {ops : Array Oper} {l : List Oper} {s : St} {call : Caller}
theorem HCode.mid {c:Code} (S:St) {Φ:AExit→St→Prop} (h1:HCode P G b c s (fun e s'=>e = .normal∧s'=S)) (h2:Φ .normal S):HCode P G b c s Φ:=
 h1.mono fun e s' ⟨h3,h4⟩=>by subst h3;subst h4;exact h2
end
end Go.Ev

namespace Go.Ev
open Go
def Le (u v:AV):Prop:=∀ (pl:Pl) (M:Mem) (x:Value),VRel pl M v x→VRel pl M u x
theorem Le.refl (v:AV):Le v v:=fun _ _ _ h=>h
theorem Le.trans {a b c:AV} (h:Le a b) (k:Le b c):Le a c:=fun pl M x hx=>h pl M x (k pl M x hx)
theorem Le.nils:Le (.ls []) .nils:=fun _ _ _ h=>by cases h;exact .lsn
theorem Le.ps (xs:List AV) (t:Bool) (h0:AV.tops xs=0):Le (.ls xs) (.ps xs t):=fun _ _ _ h=> .lsp h.loose h0
theorem Le.loose (xs:List AV) (t:Bool):Le (.ps xs false) (.ps xs t):=fun _ _ _ h=>h.loose
inductive Les:List AV→List AV→Prop
 | nil:Les [] []
 | cons {u v:AV} {us vs:List AV} (h:Le u v) (k:Les us vs):Les (u::us) (v::vs)
theorem Les.refl : ∀ (vs:List AV),Les vs vs
 | []=> .nil
 | v::r=> .cons (Le.refl v) (Les.refl r)
theorem Les.len {us vs:List AV} (h:Les us vs):us.length=vs.length:=by
 induction h with
 | nil=>rfl
 | cons _ _ ih=>simp [ih]
theorem Les.at_ {us vs:List AV} (h:Les us vs) : ∀ (j:Nat) (u:AV),us[j]? = some u→∃ v,vs[j]? = some v∧Le u v:=by
 induction h with
 | nil=>intro j u h;simp at h
 | cons h k ih=>
  intro j u hj
  cases j with
  | zero=>simp at hj;subst hj;exact ⟨_,rfl,h⟩
  | succ j=>simpa using ih j u (by simpa using hj)
theorem VRels.le {pl:Pl} {M:Mem} {us vs:List AV} {xs:Array Value} (h:VRels pl M vs xs) (hl:Les us vs):VRels pl M us xs:=
 ⟨hl.len.trans h.len,fun j u hj=>by
  obtain ⟨v,h1,h2⟩:=hl.at_ j u hj
  exact h2 _ _ _ (h.at_ j v h1)⟩
theorem Le.agg {us vs:List AV} (h:Les us vs) (hs : ∀ u,u∈us→scalB u=true):Le (.agg us) (.agg vs):=by
 intro pl M x hx
 cases hx with
 | agg h1 h2 h3=>
  refine .agg (h.len.trans h1) hs fun j u hj=>?_
  obtain ⟨v,k1,k2⟩:=h.at_ j u hj
  exact k2 _ _ _ (h3 j v k1)
theorem Le.tuple {us vs:List AV} (h:Les us vs):Le (.tuple us) (.tuple vs):=by
 intro pl M x hx
 cases hx with
 | tuple h1 h3=>
  refine .tuple (h.len.trans h1) fun j u hj=>?_
  obtain ⟨v,k1,k2⟩:=h.at_ j u hj
  exact k2 _ _ _ (h3 j v k1)
section
variable {P : Program} {G : Env} {b : Option Nat} {ops : Array Oper} {l : List Oper} {o : Oper} {s s' : St} {h h' : AHeap} {v : AV} {A A' : Fr} {f : FuncId} {args args' : List AV} {c : Code} {n t : Nat} {L : List (Nat × AV)}
theorem HCall.onArgs {Ψ:AV→AHeap→Prop} (hl:Les args' args) (hc:HCall P G f args' h Ψ):HCall P G f args h Ψ:=
 fun pl M w vs hg hr hv=>hc pl M w vs hg hr (hv.le hl)
theorem HPure.onArgs (hl:Les args' args) (hc:HPure P G f args' v):HPure P G f args v:=fun h=>(hc h).onArgs hl
theorem HCall.less {Ψ Ψ':AV→AHeap→Prop} (hc:HCall P G f args h Ψ) (hi : ∀ v h',Ψ v h'→∃ u,Le u v∧Ψ' u h'):HCall P G f args h Ψ':=by
 intro pl M w vs hg hr hv
 have key : ∀ cv v h' w',Ψ v h'→After pl M h w v h' cv w'→∃ u,Ψ' u h'∧After pl M h w u h' cv w':=by
  intro cv v h' w' hp ⟨pl',M',k1,k2⟩
  obtain ⟨u,e1,e2⟩:=hi v h' hp
  exact ⟨u,e2,pl',M',e1 _ _ _ k1,k2⟩
 rcases hc pl M w vs hg hr hv with ⟨h1,h2⟩ | ⟨cv,w',v,h',h1,h2,h3⟩
 ·refine .inl ⟨h1,Calls.mono h2 fun e w' ⟨cv,v,h',k1,k2,k3⟩=>?_⟩
  obtain ⟨u,z1,z2⟩:=key cv v h' w' k2 k3
  exact ⟨cv,u,h',k1,z1,z2⟩
 ·obtain ⟨u,z1,z2⟩:=key cv v h' w' h2 h3
  exact .inr ⟨cv,w',u,h',h1,z1,z2⟩
theorem HPure.less {u:AV} (hc:HPure P G f args v) (hl:Le u v):HPure P G f args u:=fun h=>
 (hc h).less fun v1 h1 ⟨e1,e2⟩=>⟨u,by rw [e1];exact hl,rfl,e2⟩
theorem HPure.body {fn : Func} (hG : GTop G) (ht : AV.tops args = 0) (hv : v.top = 0) (hf : P.funcs[f]? = some fn) (hN : (fn.name == "runtime.NumGoroutine") = false) (hb : fn.body = some c) (hn : Nat.ble args.length fn.ntmps = true ∧ Nat.ble fn.ntmps 60000 = true)
  (h:HCode P G (some 0) c ⟨⟨fn.ntmps,argsFr fn.ntmps args 0 .nil⟩,AHeap.none⟩ fun e s=>(∀ id,e≠ .exit id)∧∃ u,oneOrTuple (resultsR P fn.results.toList s.tmps s.heap)=some u∧Le v (leave 0 0 u s.heap).1):HPure P G f args v:=by
 refine HPure.of0 hG ht hv (HCall.less (HCall.enter 0 hf hN hb hn (Ψ:=fun v1 _=>Le v v1) (h.mono fun e s ⟨h1,u,h2,h3⟩=>⟨h1,u,h2,h3⟩)) fun v1 h' e=>⟨v,e,rfl⟩)
theorem HOps.pure {Φ:St→Prop} (t:Nat) (hd:o.dst=some t) (ht:room2 t n=true) (hg:guardR (mkFr n L) (guardDst ops o)=some true) (e:(opR P G o.op).run (mkFr n L) h=some (.call f args)) (hf:HPure P G f args v)
  (next:HOps P G b ops l ⟨mkFr n (L++ [(t,v)]),h⟩ Φ):HOps P G b ops (o::l) ⟨mkFr n L,h⟩ Φ:=by
 simp only [room2,Bool.and_eq_true] at ht
 refine HOps.calls (s:=⟨mkFr n L,h⟩) hg e (hf h) fun v1 h1 ⟨e1,e2⟩=>?_
 subst e1;subst e2
 exact ⟨_,by rw [hd];exact putA_mkFr ht.1 ht.2,next⟩
theorem HOps.step {Φ:St→Prop} (t:Nat) (hd:o.dst=some t) (ht:room2 t n=true) (hg:guardR (mkFr n L) (guardDst ops o)=some true) (e:(opR P G o.op).run (mkFr n L) h=some (.val v h'))
  (next:HOps P G b ops l ⟨mkFr n (L++ [(t,v)]),h'⟩ Φ):HOps P G b ops (o::l) ⟨mkFr n L,h⟩ Φ:=by
 simp only [room2,Bool.and_eq_true] at ht
 exact HOps.val (s:=⟨mkFr n L,h⟩) hg e (by rw [hd];exact putA_mkFr ht.1 ht.2) next
end
end Go.Ev

namespace Go.Ev
open Go
abbrev bnot (b:Bool):Bool:=Bool.not b
theorem eqI_refl (x:Int):eqI x x=true:=by cases x <;> exact Nat.beq_refl _
def cmpI (x y:Int):Int:=match ltI x y with | true=> -1 | false=>match ltI y x with | true=>1 | false=>0
section
variable {P : Program} {G : Env} {b : Option Nat} {c : Code} {s : St}
end
end Go.Ev

namespace Go.Ev
open Go
theorem of_bnotT {b:Bool} (h:bnot b=true):b=false:=by cases b <;> first | rfl | cases h
theorem of_bnotF {b:Bool} (h:bnot b=false):b=true:=by cases b <;> first | rfl | cases h
theorem nth_map {α β:Type} (f:α→β) : ∀ (xs:List α) (i:Nat),nth (xs.map f) i=(nth xs i).map f
 | [],_=>rfl
 | _::_,0=>rfl
 | _::r,i+1=>nth_map f r i
theorem nth_get {α:Type} : ∀ (xs:List α) (i:Nat),nth xs i=xs[i]?
 | [],i=>by simp [nth]
 | _::_,0=>rfl
 | _::r,i+1=>by simp [nth,nth_get r i]
theorem ltI_nat (a b:Nat):ltI (.ofNat a) (.ofNat b)=Nat.blt a b:=rfl
theorem blt_of {a b:Nat} (h:a<b):Nat.blt a b=true:=Nat.ble_eq_true_of_le h
theorem of_blt {a b:Nat} (h:Nat.blt a b=true):a<b:=Nat.le_of_ble_eq_true h
theorem blt_not {a b:Nat} (h : ¬ a<b):Nat.blt a b=false:=by
 cases q:Nat.blt a b with
 | false=>rfl
 | true=>exact absurd (of_blt q) h
theorem ltI_of {a b:Nat} (h:a<b):ltI (.ofNat a) (.ofNat b)=true:=blt_of h
theorem ltI_not {a b:Nat} (h:b≤a):ltI (.ofNat a) (.ofNat b)=false:=by
 rw [ltI_nat]
 cases q:Nat.blt a b with
 | false=>rfl
 | true=>exact absurd (of_blt q) (by omega)
theorem ltI_lt {a b:Int} : ltI a b=decide (a<b):=by
 cases a with
 | ofNat a=>cases b with
  | ofNat b=>
   rw [ltI_nat]
   by_cases h:a<b
   ·rw [blt_of h];exact (decide_eq_true (Int.ofNat_lt.2 h)).symm
   ·rw [blt_not h];exact (decide_eq_false (fun k=>h (Int.ofNat_lt.1 k))).symm
  | negSucc b=>exact (decide_eq_false (fun h=>by have:=Int.negSucc_lt_zero b;have h0:(0:Int)≤Int.ofNat a:=Int.natCast_nonneg a;omega)).symm
 | negSucc a=>cases b with
  | ofNat b=>exact (decide_eq_true (by have:=Int.negSucc_lt_zero a;have h0:(0:Int)≤Int.ofNat b:=Int.natCast_nonneg b;omega)).symm
  | negSucc b=>
   show Nat.blt b a=_
   by_cases h:b<a
   ·rw [blt_of h];exact (decide_eq_true (by omega)).symm
   ·rw [blt_not h];exact (decide_eq_false (by omega)).symm
section
variable {P : Program} {G : Env} {b : Option Nat} {c d : Code} {s : St} {n : Nat} {ops : Array Oper} {l : List Oper} {o : Oper} {h : AHeap} {v : AV} {L : List (Nat × AV)}
theorem HCode.condT {Φ:AExit→St→Prop} {x:Operand} {t:Bool} (h:t=true) (hx:(opd G x).run s.tmps=some (.bool t)) (h1:HCode P G b c s Φ):HCode P G b (.cond x c d) s Φ:=
 HCode.cond hx (fun _=>h1) (fun k=>by rw [h] at k;cases k)
theorem HCode.condF {Φ:AExit→St→Prop} {x:Operand} {t:Bool} (h:t=false) (hx:(opd G x).run s.tmps=some (.bool t)) (h1:HCode P G b d s Φ):HCode P G b (.cond x c d) s Φ:=
 HCode.cond hx (fun k=>by rw [h] at k;cases k) (fun _=>h1)
end
end Go.Ev

namespace Go.Ev
open Go
def Weak (G:Env) (b:Option Nat) (s s':St):Prop:=
 ∀ (N:Nat) (h0:AHeap) (pl0:Pl) (M0:Mem) (w0:World) (a:Act) (w:World),Base b h0 pl0→SNow G N h0 pl0 M0 w0 s a w→SNow G N h0 pl0 M0 w0 s' a w
noncomputable section
def frzP (h:AHeap) (k n:Nat) (v:AV):Option AV:=
 match v with
 | .ptr id ep i off=>
  match Nat.blt id n with
  | true=>some v
  | false=>match h.get id with
   | some (.row _ _ ep' xs)=>
    match Nat.beq ep ep' && Nat.blt i xs.length with
    | true=>match mapO (frz h k n) xs with
     | some ys=>some (.pptr ys i off)
     | none=>none
    | false=>none
   | _=>none
 | v=>frz h k n v
def frzV (h:AHeap) (k n:Nat) (v:AV):Option AV:=
 match v with
 | .func fn a b=>match mapO (frz h k n) a,mapO (frzP h k n) b with
  | some a,some b=>some (.func fn a b)
  | _,_=>none
 | v=>frzP h k n v
def frzL (A:Fr) (h:AHeap) (n:Nat):List Nat→Option (List (Nat × AV))
 | []=>some []
 | t::r=>match A.get t with
  | some v=>match frzV h freezeDepth n v with
   | some u=>match frzL A h n r with
    | some L=>some ((t,u)::L)
    | none=>none
   | none=>none
  | none=>none
end
mutual
def within (ids:List Nat):AV→Bool
 | .ptr id ..=>hasId id ids
 | .slice id ..=>hasId id ids
 | .map id=>hasId id ids
 | .func _ a b=>withins ids a && withins ids b
 | .iface _ v=>within ids v
 | .agg cs=>withins ids cs
 | .tuple cs=>withins ids cs
 | .ps xs _=>withins ids xs
 | .pptr xs _ _=>withins ids xs
 | _=>true
def withins (ids:List Nat):List AV→Bool
 | []=>true
 | x::r=>within ids x && withins ids r
end
def withinE (ids:List Nat):List AEnt→Bool
 | []=>true
 | e::r=>within ids e.key && within ids e.val && withinE ids r
def withinO (ids:List Nat):AObj→Bool
 | .row _ _ _ xs=>withins ids xs
 | .map es _=>withinE ids es
 | .miter m _ _=>within ids m
 | _=>true
def posOf (id:Nat):List Nat→Nat→Nat
 | [],_=>0
 | x::r,i=>match Nat.beq x id with | true=>i | false=>posOf id r (i+1)
def idAt:List Nat→Nat→Nat
 | [],_=>0
 | x::r,i=>match i with | 0=>x | k+1=>idAt r k
noncomputable section
def renL (A:Fr) (ids:List Nat):List Nat→Option (List (Nat × AV))
 | []=>some []
 | t::r=>match A.get t with
  | some v=>match within ids v with
   | true=>match renL A ids r with
    | some L=>some ((t,ren (fun i=>posOf i ids 0) v)::L)
    | none=>none
   | false=>none
  | none=>none
def onceL:List Nat→Bool
 | []=>true
 | x::r=>!hasId x r && onceL r
def firstL (ids:List Nat):Nat→Bool
 | 0=>true
 | k+1=>Nat.beq (idAt ids k) k && Nat.blt k ids.length && firstL ids k
end
section
variable {P : Program} {G : Env} {b : Option Nat} {ops : Array Oper} {l : List Oper} {o : Oper} {s s' : St} {h h' : AHeap} {v : AV} {A A' : Fr} {f : FuncId} {args : List AV} {c : Code} {n t : Nat} {L : List (Nat × AV)} {pl pl' : Pl} {M M' : Mem} {w w' : World}
theorem Weak.refl (s:St):Weak G b s s:=fun _ _ _ _ _ _ _ _ h=>h
theorem Weak.trans {s1 s2 s3:St} (h:Weak G b s1 s2) (k:Weak G b s2 s3):Weak G b s1 s3:=fun N h0 pl0 M0 w0 a w hb hs=>k N h0 pl0 M0 w0 a w hb (h N h0 pl0 M0 w0 a w hb hs)
theorem Weak.sub (hS:SubSt s' s):Weak G b s s':=fun _ _ _ _ _ _ _ _ hs=>hS.now hs
theorem HCode.weak {Φ:AExit→St→Prop} (hW:Weak G b s s') (h:HCode P G b c s' Φ):HCode P G b c s Φ:=
 fun N h0 pl0 M0 w0 a w Q hb hs hQ=>h N h0 pl0 M0 w0 a w Q hb (hW N h0 pl0 M0 w0 a w hb hs) hQ
theorem HOps.weak {Φ:St→Prop} (hW:Weak G b s s') (h:HOps P G b ops l s' Φ):HOps P G b ops l s Φ:=
 fun i N h0 pl0 M0 w0 a w Q hb hl hs hQ=>h i N h0 pl0 M0 w0 a w Q hb hl (hW N h0 pl0 M0 w0 a w hb hs) hQ
theorem Weak.fr (hn:A'.n=A.n) (hF : ∀ t u,A'.get t=some u→∃ v,A.get t=some v∧Le u v):Weak G b ⟨A,h⟩ ⟨A',h⟩:=by
 intro N h0 pl0 M0 w0 a w hb ⟨⟨pl,M,g1,g2,g3,g4,g5⟩,k1,k2⟩
 refine ⟨⟨pl,M,g1,g2,⟨by rw [hn];exact g3.size,g3.defers,fun t u ht=>?_⟩,g4,g5⟩,hn.trans k1,k2⟩
 obtain ⟨v,e1,e2⟩:=hF t u ht
 obtain ⟨q1,q2⟩:=g3.at_ t v e1
 exact ⟨by rw [hn];exact q1,e2 _ _ _ q2⟩
theorem Weak.put {u:AV} (hs:A.n≤60000) (hv:A.get t=some v) (hl:Le u v) (hp:putA A (some t) u=some A'):Weak G b ⟨A,h⟩ ⟨A',h⟩:=by
 have hp':A.put t u=some A':=hp
 have hn:A'.n=A.n:=by
  unfold Fr.put at hp'
  split at hp'
  ·simp at hp';subst hp';rfl
  ·simp at hp'
 refine Weak.fr hn fun t' u' ht=>?_
 obtain ⟨_,_,h3⟩:=Fr.get_put hs hp' ht
 rcases h3 with ⟨rfl,rfl⟩ | ⟨_,h5⟩
 ·exact ⟨v,hv,hl⟩
 ·exact ⟨u',h5,Le.refl _⟩
theorem Le.elem {xs:List AV} {i off:Nat} {x:AV} (hx:nth xs i=some x):Le (.pptr [x] 0 off) (.pptr xs i off):=by
 rw [nth_get] at hx
 intro pl M y hy
 cases hy with
 | pptr hm hs hi hc=>
  rename_i a sz c
  have hle:(i+1) * sz≤xs.length * sz:=Nat.mul_le_mul_right _ hi
  have:=VRel.pptr (pl:=pl) (M:=M) (xs:= [x]) (i:=0) (off:=off) (a:=⟨a.block,a.off+i * sz,none⟩) (sz:=sz) (c:=c) ⟨rfl,hm.2.1,by
   have:=hm.2.2.1
   rw [Nat.add_mul] at hle
   simp only [List.length_cons,List.length_nil] at *
   omega,hm.2.2.2⟩ (fun z hz=>by
    simp only [List.mem_singleton] at hz
    subst hz
    exact hs z (List.mem_of_getElem? hx)) (by simp) (fun k z j y' hk hj=>by
    cases k with
    | zero=>
     simp only [List.getElem?_cons_zero,Option.some.injEq] at hk
     subst hk
     have:=hc i x j y' hx hj
     simpa using this
    | succ k=>simp at hk)
  simpa using this
theorem frzP_ok (hr:Rep pl M h w) {n:Nat} {Md:Mem} (hmd:MExt M Md)
  (hd : ∀ id p sz op ep xs c t fr,n≤id→pl id=some p→h.get id=some (.row sz op ep xs)→w.heap[p.blk]? = some (.cells c t fr)→Md p.blk=some c)
  (k:Nat) (v v':AV) (x:Value) (hv:VRel pl M v x) (e:frzP h k n v=some v'):VRel (cutPl pl n) Md v' x:=by
 unfold frzP at e
 split at e
 ·rename_i id ep i off
  rw [blt_iff] at e
  by_cases hid:id<n
  ·simp [hid] at e
   subst e
   exact hv.agree (n:=n) (by simp only [AV.top];omega) cutPl_ext_low hmd
  ·simp only [hid,decide_false] at e
   split at e
   ·rename_i sz op ep' xs hgo
    split at e
    ·rename_i hck
     simp only [beq_iff,blt_iff,Bool.and_eq_true,decide_eq_true_eq] at hck
     obtain ⟨rfl,hi⟩:=hck
     split at e
     ·rename_i ys hys
      cases e
      cases hv with
      | ptr hp he ha=>
       rename_i a p
       have ho:=hr.obj id p _ hp hgo
       cases hb:w.heap[p.blk]? with
       | none=>rw [hb] at ho;simp [ObjRel] at ho
       | some ob=>
        rw [hb] at ho
        cases ob <;> simp only [ObjRel] at ho
        rename_i c t fr
        obtain ⟨g1,g2,g3,g4,g5,g6,g7,g8⟩:=ho
        have ha:=ha g1.symm
        subst ha
        obtain ⟨m1,m2⟩:=mapO_some hys
        have cells : ∀ (i:Nat) (x y:AV),xs[i]? = some x→frz h k n x=some y→flatB x=true:=by
         intro i x y h1 h2
         have he:=(g8.elem x (List.mem_of_getElem? h1)).2
         cases x <;> first | rfl | skip
         exact absurd (he _ (by simp [AV.cells];rfl)) (by simp [scalB])
        have hfit:=g8.fit
        have:=VRel.pptr (pl:=cutPl pl n) (M:=Md) (xs:=ys) (i:=i) (off:=off) (a:=⟨p.blk,0,none⟩) (sz:=p.sz) (c:=c)
         ⟨rfl,hd _ _ _ _ _ _ _ _ _ (by omega) hp hgo hb,by rw [← m1,g2];simpa using hfit,by rw [g2];exact g6⟩ (fun y hy=>by
          obtain ⟨j,hj⟩:=List.getElem?_of_mem hy
          obtain ⟨x,k1,k2⟩:=m2 j y hj
          have he:=g8.elem x (List.mem_of_getElem? k1)
          obtain ⟨f1,f2,f3⟩:=frz_cells k2 (cells j x y k1 k2) he.2
          exact ⟨by rw [f1,he.1];exact g2.symm,f2⟩) (by rw [← m1];exact hi) (fun j y q u hj hu=>by
          obtain ⟨x,k1,k2⟩:=m2 j y hj
          have he:=g8.elem x (List.mem_of_getElem? k1)
          obtain ⟨_,_,f3⟩:=frz_cells k2 (cells j x y k1 k2) he.2
          obtain ⟨z,k',q1,q2⟩:=f3 q u hu
          have hz:=g8.cell j x q z k1 q1
          rw [g2]
          exact frz_ok hr hmd hd k' z u _ hz q2)
        simpa using this
     ·cases e
    ·cases e
   ·cases e
 ·exact frz_ok hr hmd hd k v v' x hv e
theorem frzV_ok (hr:Rep pl M h w) {n:Nat} {Md:Mem} (hmd:MExt M Md)
  (hd : ∀ id p sz op ep xs c t fr,n≤id→pl id=some p→h.get id=some (.row sz op ep xs)→w.heap[p.blk]? = some (.cells c t fr)→Md p.blk=some c)
  (k:Nat) (v v':AV) (x:Value) (hv:VRel pl M v x) (e:frzV h k n v=some v'):VRel (cutPl pl n) Md v' x:=by
 unfold frzV at e
 split at e
 ·split at e
  ·rename_i fn a b a' b' ha hb
   cases e
   cases hv with
   | func h1 h2 h3 h4=>
    obtain ⟨m1,m2⟩:=mapO_some ha
    obtain ⟨m3,m4⟩:=mapO_some hb
    refine .func (m1 ▸ h1) (m3 ▸ h2) (fun j y hj=>?_) (fun j y hj=>?_)
    ·obtain ⟨z,q1,q2⟩:=m2 j y hj
     exact frz_ok hr hmd hd k z y _ (h3 j z q1) q2
    ·obtain ⟨z,q1,q2⟩:=m4 j y hj
     exact frzP_ok hr hmd hd k z y _ (h4 j z q1) q2
  ·cases e
 ·exact frzP_ok hr hmd hd k v v' x hv e
theorem frzL_get : ∀ {ts:List Nat} {L:List (Nat × AV)},frzL A h n ts=some L→∀ t u,(t,u)∈L→∃ v,A.get t=some v∧frzV h freezeDepth n v=some u
 | [],L,e,t,u,hm=>by simp [frzL] at e;subst e;simp at hm
 | x::r,L,e,t,u,hm=>by
  simp only [frzL] at e
  split at e
  ·rename_i v hv
   split at e
   ·rename_i y hy
    split at e
    ·rename_i L' hL
     simp at e
     subst e
     rcases List.mem_cons.1 hm with k | k
     ·cases k;exact ⟨v,hv,hy⟩
     ·exact frzL_get hL t u k
    ·cases e
   ·cases e
  ·cases e
def Plain (h:AHeap) (n:Nat) (v u:AV):Prop:=∀ (pl:Pl) (M Md:Mem) (w:World) (x:Value),Rep pl M h w→MExt M Md→
 (∀ id p sz op ep xs c t fr,n≤id→pl id=some p→h.get id=some (.row sz op ep xs)→w.heap[p.blk]? = some (.cells c t fr)→Md p.blk=some c)→VRel pl M v x→VRel (cutPl pl n) Md u x
theorem Plain.frz {h:AHeap} {n k:Nat} {v u:AV} (e:frzV h k n v=some u):Plain h n v u:=fun _ _ _ _ x hr hmd hd hv=>frzV_ok hr hmd hd k v u x hv e
theorem Plain.slice {h:AHeap} {n id ep off len sz:Nat} {cap:Option Nat} {op:Bool} {xs ys:List AV} (hgo:h.get id=some (.row sz op ep xs)) (hid:n≤id) (hy:(xs.drop off).take len=ys) (ht:AV.tops ys=0) :
  Plain h n (.slice id ep off len cap) (.ps ys (optB cap (some len))):=by
 intro pl M Md w x hr hmd hd hv
 cases hv with
 | slice hp hle hl hk ha=>
  rename_i cap' a p
  have ho:=hr.obj id p _ hp hgo
  cases hb:w.heap[p.blk]? with
  | none=>rw [hb] at ho;simp [ObjRel] at ho
  | some ob=>
   rw [hb] at ho
   cases ob <;> simp only [ObjRel] at ho
   rename_i c t fr
   obtain ⟨g1,g2,g3,g4,g5,g6,g7,g8⟩:=ho
   obtain ⟨q1,q2,q3,q4,q5⟩:=ha (by omega)
   have hlen:ys.length=len:=by rw [← hy];simp;omega
   have src : ∀ (i:Nat) (y:AV),ys[i]? = some y→xs[off+i]? = some y∧i<len:=by
    intro i y hi
    have hil:i<ys.length:=(List.getElem?_eq_some_iff.1 hi).1
    rw [← hy,List.getElem?_take_of_lt (by omega),List.getElem?_drop] at hi
    exact ⟨hi,by omega⟩
   have hys0:ys≠ []→a=⟨p.blk,off * p.sz,none⟩:=by
    intro hne
    rcases q1 with hc0 | hc1
    ·have:ys.length≠0:=fun h0=>hne (List.eq_nil_of_length_eq_zero h0)
     omega
    ·exact hc1
   have hfit:off * p.sz+ys.length * p.sz≤c.size:=by
    rw [← g4]
    calc off * p.sz+ys.length * p.sz=(off+ys.length) * p.sz:=by rw [Nat.add_mul]
     _≤(off+cap') * p.sz:=Nat.mul_le_mul_right _ (by omega)
     _≤p.tot:=q2
   rw [← hlen]
   refine VRel.ps (sz:=p.sz) (c:=c) (by omega) (fun ht=>?_) (fun hne=>?_) (fun y hy=>?_) (fun i y j u hi hu=>?_)
   ·cases cap with
    | none=>simp [optB] at ht
    | some cc=>simp [optB,beq_iff] at ht;rw [hk cc rfl];omega
   ·rw [hys0 hne]
    exact ⟨rfl,hd _ _ _ _ _ _ _ _ _ hid hp hgo hb,hfit,by omega⟩
   ·obtain ⟨i,hi⟩:=List.getElem?_of_mem hy
    obtain ⟨k1,k2⟩:=src i y hi
    have he:=g8.elem y (List.mem_of_getElem? k1)
    exact ⟨by rw [he.1];exact g2.symm,he.2⟩
   ·have hne:ys≠ []:=fun h0=>by rw [h0] at hi;simp at hi
    rw [hys0 hne]
    obtain ⟨k1,k2⟩:=src i y hi
    have hz:=g8.cell _ _ j u k1 hu
    have htop:u.top≤n:=Nat.le_trans (cells_top (tops_le.1 (Nat.le_of_eq ht) y (List.mem_of_getElem? hi)) (List.mem_of_getElem? hu)) (Nat.zero_le _)
    have:=hz.agree htop cutPl_ext_low hmd
    rw [g2]
    simpa [Nat.add_mul,Nat.add_assoc] using this
theorem Weak.frzP (hG:GTop G) {m k:Nat} {L:List (Nat × AV)} (hm:m≤k) (hk:k≤s.heap.n) (hc:cleanTo s.heap k k=true) (e : ∀ t u,(t,u)∈L→∃ v,s.tmps.get t=some v∧Plain s.heap k v u):Weak G (some m) s ⟨mkFr s.tmps.n L,s.heap.cut k⟩:=by
 intro N h0 pl0 M0 w0 a w hb ⟨⟨pl,M,g1,g2,g3,g4,g5⟩,k1,k2⟩
 obtain ⟨b1,b2⟩:=hb m rfl
 have hlow : ∀ id p,pl0 id=some p→id<k:=fun id p hp=>Nat.lt_of_lt_of_le (b2 id p hp) hm
 refine ⟨⟨cutPl pl k,dropM pl M w k,(g1.none hG).mono (Ext.refl _) (dropM_ext k),g2.dropped hk (fun id o q1 q2=>cleanTo_ok k hc id o q1 q2),⟨g3.size,g3.defers,fun t u ht=>?_⟩,⟨?_,?_,?_,g4.size,g4.kept,?_,?_,?_,?_,g4.os,g4.tape,g4.out,g4.drawn⟩,by show h0.n≤k;omega⟩,k1,k2⟩
 ·obtain ⟨v,q1,q2⟩:=e t u (mkFr_get ht)
  obtain ⟨q3,q4⟩:=g3.at_ t v q1
  exact ⟨q3,q2 _ _ _ _ _ g2 (dropM_ext k) (fun id p sz op ep xs c t fr z1 z2 _ z4=>dropM_at g2 z1 z2 z4) q4⟩
 ·intro id p hp
  obtain ⟨p',q1,q2⟩:=g4.ext id p hp
  exact ⟨p',cutPl_some.2 ⟨hlow id p hp,q1⟩,q2⟩
 ·intro id hid hp
  have:=g4.new id hid hp
  cases hcp:cutPl pl k id with
  | none=>rfl
  | some q=>rw [(cutPl_some.1 hcp).2] at this;cases this
 ·exact fun b c hb=>dropM_ext k b c (g4.mem b c hb)
 ·exact fun id p' hp'=>g4.blks id p' (cutPl_some.1 hp').2
 ·intro id p hp hg
  have:=g4.live id p hp hg
  cases hcp:(s.heap.cut k).get id with
  | none=>rfl
  | some o=>rw [(AHeap.get_cut hk hcp).2] at this;cases this
 ·exact fun id p hp hg=>cutPl_some.2 ⟨hlow id p hp,g4.stay id p hp hg⟩
 ·intro b c hb
  rcases dropM_some hb with q | ⟨⟨id,p,q1,q2,q3⟩,_⟩
  ·exact g4.memNew b c q
  ·rcases g4.blks id p q2 with ⟨p0,q4,_⟩ | q4
   ·have:=hlow id p0 q4;omega
   ·exact .inr (by omega)
theorem Weak.frz (hG:GTop G) {m k:Nat} {ts:List Nat} (hm:m≤k) (hk:k≤s.heap.n) (hc:cleanTo s.heap k k=true) (e:frzL s.tmps s.heap k ts=some L):Weak G (some m) s ⟨mkFr s.tmps.n L,s.heap.cut k⟩:=
 Weak.frzP hG hm hk hc fun t u h=>by obtain ⟨v,q1,q2⟩:=frzL_get e t u h;exact ⟨v,q1,Plain.frz q2⟩
theorem posOf_at {ids:List Nat} {id:Nat} (i:Nat) (h:hasId id ids=true):i≤posOf id ids i∧idAt ids (posOf id ids i - i)=id∧posOf id ids i - i<ids.length:=by
 induction ids generalizing i with
 | nil=>simp [hasId] at h
 | cons x r ih=>
  simp only [hasId,Bool.or_eq_true] at h
  simp only [posOf]
  cases hb:Nat.beq x id with
  | true=>
   rw [beq_iff] at hb
   simp only [decide_eq_true_eq] at hb
   simp [idAt,hb]
  | false=>
   rcases h with h | h
   ·rw [h] at hb;cases hb
   ·obtain ⟨k1,k2,k3⟩:=ih (i+1) h
    simp only []
    refine ⟨by omega,?_,by simp only [List.length_cons];omega⟩
    rw [show posOf id r (i+1) - i=(posOf id r (i+1) - (i+1))+1 by omega]
    exact k2
theorem posOf_lt {ids:List Nat} {id:Nat} (h:hasId id ids=true):posOf id ids 0<ids.length∧idAt ids (posOf id ids 0)=id:=by
 obtain ⟨_,k2,k3⟩:=posOf_at 0 h
 simpa using ⟨k3,k2⟩
mutual
theorem ren_back {ids:List Nat} : ∀ (v:AV),within ids v=true→ren (idAt ids) (ren (fun i=>posOf i ids 0) v)=v∧(ren (fun i=>posOf i ids 0) v).top≤ids.length
 | .ptr id ..,h=>by simp only [within] at h;obtain ⟨h1,h2⟩:=posOf_lt h;exact ⟨by simp only [ren,h2],by simp only [ren,AV.top];omega⟩
 | .slice id ..,h=>by simp only [within] at h;obtain ⟨h1,h2⟩:=posOf_lt h;exact ⟨by simp only [ren,h2],by simp only [ren,AV.top];omega⟩
 | .map id,h=>by simp only [within] at h;obtain ⟨h1,h2⟩:=posOf_lt h;exact ⟨by simp only [ren,h2],by simp only [ren,AV.top];omega⟩
 | .func fn a b,h=>by
  simp only [within,Bool.and_eq_true] at h
  obtain ⟨k1,k2⟩:=rens_back a h.1
  obtain ⟨q1,q2⟩:=rens_back b h.2
  exact ⟨by simp only [ren,k1,q1],by simp only [ren,AV.top];exact mx_le.2 ⟨k2,q2⟩⟩
 | .iface t v,h=>by simp only [within] at h;obtain ⟨k1,k2⟩:=ren_back v h;exact ⟨by simp only [ren,k1],by simpa only [ren,AV.top] using k2⟩
 | .agg cs,h=>by simp only [within] at h;obtain ⟨k1,k2⟩:=rens_back cs h;exact ⟨by simp only [ren,k1],by simpa only [ren,AV.top] using k2⟩
 | .tuple cs,h=>by simp only [within] at h;obtain ⟨k1,k2⟩:=rens_back cs h;exact ⟨by simp only [ren,k1],by simpa only [ren,AV.top] using k2⟩
 | .ps xs t,h=>by simp only [within] at h;obtain ⟨k1,k2⟩:=rens_back xs h;exact ⟨by simp only [ren,k1],by simpa only [ren,AV.top] using k2⟩
 | .pptr xs i o,h=>by simp only [within] at h;obtain ⟨k1,k2⟩:=rens_back xs h;exact ⟨by simp only [ren,k1],by simpa only [ren,AV.top] using k2⟩
 | .ls xs,_=>⟨rfl,Nat.zero_le _⟩
 | .bool b,_=>⟨rfl,Nat.zero_le _⟩
 | .int k n,_=>⟨rfl,Nat.zero_le _⟩
 | .str s,_=>⟨rfl,Nat.zero_le _⟩
 | .nilp,_=>⟨rfl,Nat.zero_le _⟩
 | .nils,_=>⟨rfl,Nat.zero_le _⟩
 | .nilm,_=>⟨rfl,Nat.zero_le _⟩
 | .nilf,_=>⟨rfl,Nat.zero_le _⟩
 | .nili,_=>⟨rfl,Nat.zero_le _⟩
theorem rens_back {ids:List Nat} : ∀ (vs:List AV),withins ids vs=true→rens (idAt ids) (rens (fun i=>posOf i ids 0) vs)=vs∧AV.tops (rens (fun i=>posOf i ids 0) vs)≤ids.length
 | [],_=>⟨rfl,Nat.zero_le _⟩
 | x::r,h=>by
  simp only [withins,Bool.and_eq_true] at h
  obtain ⟨k1,k2⟩:=ren_back x h.1
  obtain ⟨q1,q2⟩:=rens_back r h.2
  exact ⟨by simp only [rens,k1,q1],by simp only [rens,AV.tops];exact mx_le.2 ⟨k2,q2⟩⟩
end
theorem renE_back {ids:List Nat} : ∀ (es:List AEnt),withinE ids es=true→renEnts (idAt ids) (renEnts (fun i=>posOf i ids 0) es)=es∧entTops (renEnts (fun i=>posOf i ids 0) es)≤ids.length
 | [],_=>⟨rfl,Nat.zero_le _⟩
 | e::r,h=>by
  simp only [withinE,Bool.and_eq_true] at h
  obtain ⟨k1,k2⟩:=ren_back e.key h.1.1
  obtain ⟨z1,z2⟩:=ren_back e.val h.1.2
  obtain ⟨q1,q2⟩:=renE_back r h.2
  exact ⟨by simp only [renEnts,k1,z1,q1],by simp only [renEnts,entTops];exact mx_le.2 ⟨mx_le.2 ⟨k2,z2⟩,q2⟩⟩
theorem renO_back {ids:List Nat} (o:AObj) (h:withinO ids o=true):renO (idAt ids) (renO (fun i=>posOf i ids 0) o)=o∧(renO (fun i=>posOf i ids 0) o).top≤ids.length:=by
 cases o with
 | row a b c xs=>simp only [withinO] at h;obtain ⟨k1,k2⟩:=rens_back xs h;exact ⟨by simp only [renO,k1],by simpa only [renO,AObj.top] using k2⟩
 | map es c=>simp only [withinO] at h;obtain ⟨k1,k2⟩:=renE_back es h;exact ⟨by simp only [renO,k1],by simpa only [renO,AObj.top] using k2⟩
 | dead=>exact ⟨rfl,Nat.zero_le _⟩
 | siter s p=>exact ⟨rfl,Nat.zero_le _⟩
 | miter m c s=>simp only [withinO] at h;obtain ⟨k1,k2⟩:=ren_back m h;exact ⟨by simp only [renO,k1],by simpa only [renO,AObj.top] using k2⟩
theorem renL_get {ids:List Nat} : ∀ {ts:List Nat} {L:List (Nat × AV)},renL A ids ts=some L→∀ t u,(t,u)∈L→∃ v,A.get t=some v∧within ids v=true∧u=ren (fun i=>posOf i ids 0) v
 | [],L,e,t,u,hm=>by simp [renL] at e;subst e;simp at hm
 | x::r,L,e,t,u,hm=>by
  simp only [renL] at e
  split at e
  ·rename_i v hv
   split at e
   ·rename_i hw
    split at e
    ·rename_i L' hL
     simp at e
     subst e
     rcases List.mem_cons.1 hm with k | k
     ·cases k;exact ⟨v,hv,hw,rfl⟩
     ·exact renL_get hL t u k
    ·cases e
   ·cases e
  ·cases e
theorem idAt_get : ∀ {ids:List Nat} {i:Nat},i<ids.length→ids[i]? = some (idAt ids i)
 | x::r,0,_=>rfl
 | x::r,i+1,h=>by simpa [idAt] using idAt_get (ids:=r) (i:=i) (by simpa using h)
theorem onceL_inj : ∀ {ids:List Nat},onceL ids=true→∀ i j,i<ids.length→j<ids.length→idAt ids i=idAt ids j→i=j
 | x::r,h,i,j,hi,hj,e=>by
  simp only [onceL,Bool.and_eq_true,Bool.not_eq_true'] at h
  have hx : ∀ k,k<r.length→idAt r k≠x:=by
   intro k hk e
   have:=List.mem_of_getElem? (idAt_get hk)
   rw [e] at this
   have:=hasId_iff.2 this
   rw [h.1] at this;cases this
  cases i with
  | zero=>cases j with
   | zero=>rfl
   | succ j=>exact absurd e.symm (hx j (by simpa using hj))
  | succ i=>cases j with
   | zero=>exact absurd e (hx i (by simpa using hi))
   | succ j=>have:=onceL_inj h.2 i j (by simpa using hi) (by simpa using hj) e;omega
theorem firstL_ok {ids:List Nat} : ∀ {m:Nat},firstL ids m=true→∀ i,i<m→idAt ids i=i∧i<ids.length
 | 0,_,i,hi=>by omega
 | k+1,h,i,hi=>by
  simp only [firstL,Bool.and_eq_true,beq_iff,blt_iff,decide_eq_true_eq] at h
  by_cases e:i=k
  ·subst e;exact h.1
  ·exact firstL_ok h.2 i (by omega)
theorem Weak.renR (hG:GTop G) {m:Nat} {ids ts:List Nat} {os:List AObj} (h1:onceL ids=true) (h2:firstL ids m=true) (e1:renL s.tmps ids ts=some L) (o1:os.length=ids.length)
  (o2 : ∀ (j:Nat) (o':AObj),os[j]? = some o'→∃ o,s.heap.get (idAt ids j)=some o∧renO (idAt ids) o'=o∧o'.top≤ids.length) :
  Weak G (some m) s ⟨mkFr s.tmps.n L,mkH os⟩:=by
 intro N h0 pl0 M0 w0 a w hb ⟨⟨pl,M,g1,g2,g3,g4,g5⟩,k1,k2⟩
 obtain ⟨b1,b2⟩:=hb m rfl
 have hm : ∀ i,i<m→idAt ids i=i∧i<ids.length:=firstL_ok h2
 have hlen:(mkH os).n=ids.length:=o1
 have some_ : ∀ {id p},renPl (idAt ids) ids.length pl id=some p→id<ids.length∧pl (idAt ids id)=some p:=by
  intro id p h
  unfold renPl at h
  by_cases q:id<ids.length
  ·simp [q] at h;exact ⟨q,h⟩
  ·simp [q] at h
 have low : ∀ {id p},pl0 id=some p→∀ {q},pl id=some q→renPl (idAt ids) ids.length pl id=some q:=by
  intro id p hp q hq
  obtain ⟨z1,z2⟩:=hm id (b2 id p hp)
  simp [renPl,z1,z2,hq]
 have blk : ∀ {id p'},renPl (idAt ids) ids.length pl id=some p'→(∃ p,pl0 id=some p∧p.blk=p'.blk)∨w0.heap.size≤p'.blk:=by
  intro id p' hp
  obtain ⟨q1,q2⟩:=some_ hp
  rcases g4.blks _ p' q2 with ⟨p0,y1,y2⟩ | y
  ·obtain ⟨z1,z2⟩:=hm _ (b2 _ p0 y1)
   have:=onceL_inj h1 id (idAt ids id) q1 z2 z1.symm
   rw [← this] at y1
   exact .inl ⟨p0,y1,y2⟩
  ·exact .inr y
 refine ⟨⟨renPl (idAt ids) ids.length pl,M,g1.none hG,⟨fun id p hp=>by rw [hlen];exact (some_ hp).1,fun id p o hp hg=>?_,fun id p hp=>g2.blk _ p (some_ hp).2,fun id id' p p' q1 q2 e=>onceL_inj h1 id id' (some_ q1).1 (some_ q2).1 (g2.inj _ _ p p' (some_ q1).2 (some_ q2).2 e),g2.imm,fun id p hp=>g2.sep _ p (some_ hp).2⟩,
  ⟨g3.size,g3.defers,fun t u ht=>?_⟩,⟨fun id p hp=>?_,fun id hid hp=>?_,g4.mem,g4.size,g4.kept,fun id p hp=>blk hp,fun id p hp hg=>?_,fun id p hp hg=>low hp (g4.stay id p hp hg),g4.memNew,g4.os,g4.tape,g4.out,g4.drawn⟩,?_⟩,k1,k2⟩
 ·obtain ⟨q1,q2⟩:=some_ hp
  obtain ⟨o',y1,z1,z2⟩:=o2 id o (mkH_get hg)
  exact ObjRel.ren (ρ:=idAt ids) (by rw [z1];exact g2.obj _ p _ q2 y1) z2
 ·obtain ⟨v,q1,q2,q3⟩:=renL_get e1 t u (mkFr_get ht)
  subst q3
  obtain ⟨z1,z2⟩:=ren_back v q2
  obtain ⟨q3,q4⟩:=g3.at_ t v q1
  exact ⟨q3,q4.ren z1.symm z2⟩
 ·obtain ⟨p',q1,q2⟩:=g4.ext id p hp
  exact ⟨p',low hp q1,q2⟩
 ·have hid':id<m:=by omega
  have:=g4.new id hid hp
  cases hr:renPl (idAt ids) ids.length pl id with
  | none=>rfl
  | some q=>
   have:=(some_ hr).2
   rw [(hm id hid').1] at this
   rw [g4.new id hid hp] at this;cases this
 ·have hk:=g4.live id p hp hg
  cases hr:(mkH os).get id with
  | none=>rfl
  | some o=>
   obtain ⟨o',y1,_⟩:=o2 id o (mkH_get hr)
   rw [(hm id (b2 id p hp)).1,hk] at y1;cases y1
 ·show h0.n≤(mkH os).n
  rw [hlen,b1]
  cases m with
  | zero=>exact Nat.zero_le _
  | succ k=>exact (hm k (Nat.lt_succ_self k)).2
theorem renEnts_plain (ρ:Nat→Nat) : ∀ (es:List AEnt),entTops es=0→renEnts ρ es=es
 | [],_=>rfl
 | e::r,h=>by
  simp only [entTops] at h
  have h1:=mx_zero h
  have h2:=mx_zero h1.1
  simp only [renEnts,ren_plain ρ e.key h2.1,ren_plain ρ e.val h2.2,renEnts_plain ρ r h1.2]
theorem renO_plain (ρ:Nat→Nat) (o:AObj) (h:o.top=0):renO ρ o=o:=by
 cases o with
 | row a b c xs=>simp only [AObj.top] at h;simp only [renO,rens_plain ρ xs h]
 | map es c=>simp only [AObj.top] at h;simp only [renO,renEnts_plain ρ es h]
 | dead=>rfl
 | siter s p=>rfl
 | miter m c s=>simp only [AObj.top] at h;simp only [renO,ren_plain ρ m h]
theorem Weak.frzS (hG:GTop G) {m k:Nat} {ts:List Nat} {os:List AObj} {t id ep off len sz:Nat} {cap:Option Nat} {op:Bool} {xs ys:List AV} (hm:m≤k) (hk:k≤s.heap.n) (hc:cleanTo s.heap k k=true) (e:Ev.frzL s.tmps s.heap k ts=some L) (eo:objsAll s.heap k 0=some os)
  (et:s.tmps.get t=some (.slice id ep off len cap)) (hid:k≤id) (hg:s.heap.get id=some (.row sz op ep xs)) (hy:(xs.drop off).take len=ys) (ht:AV.tops ys=0) :
  Weak G (some m) s ⟨mkFr s.tmps.n ((t, .ps ys (optB cap (some len)))::L),mkH os⟩:=by
 refine Weak.trans (Weak.frzP (L:=(t, .ps ys (optB cap (some len)))::L) hG hm hk hc fun t' u h=>?_) (Weak.sub ⟨rfl,fun _ _ h=>h,?_,fun id o hh=>?_⟩)
 ·rcases List.mem_cons.1 h with h | h
  ·cases h;exact ⟨_,et,Plain.slice hg hid hy ht⟩
  ·obtain ⟨v,q1,q2⟩:=frzL_get e t' u h;exact ⟨v,q1,Plain.frz q2⟩
 ·obtain ⟨k1,_⟩:=objsAll_some _ _ _ eo
  show k≤(mkH os).n
  simp [mkH,k1]
 ·obtain ⟨k1,k2⟩:=objsAll_some _ _ _ eo
  have h1:=mkH_get hh
  have h2:=k2 id o h1
  have hlt:id<k:=by rw [← k1];exact (List.getElem?_eq_some_iff.1 h1).1
  rw [Nat.zero_add,AHeap.get_some] at h2
  exact AHeap.get_some.2 ⟨hlt,h2.2.1,h2.2.2⟩
theorem Weak.frzL (hG:GTop G) {m k:Nat} {ts:List Nat} {os:List AObj} (hm:m≤k) (hk:k≤s.heap.n) (hc:cleanTo s.heap k k=true) (e:Ev.frzL s.tmps s.heap k ts=some L) (eo:objsAll s.heap k 0=some os) :
  Weak G (some m) s ⟨mkFr s.tmps.n L,mkH os⟩:=by
 refine Weak.trans (Weak.frz hG hm hk hc e) (Weak.sub ⟨rfl,fun _ _ h=>h,?_,fun id o hh=>?_⟩)
 ·obtain ⟨k1,_⟩:=objsAll_some _ _ _ eo
  show k≤(mkH os).n
  simp [mkH,k1]
 ·obtain ⟨k1,k2⟩:=objsAll_some _ _ _ eo
  have h1:=mkH_get hh
  have h2:=k2 id o h1
  have hlt:id<k:=by rw [← k1];exact (List.getElem?_eq_some_iff.1 h1).1
  rw [Nat.zero_add,AHeap.get_some] at h2
  exact AHeap.get_some.2 ⟨hlt,h2.2.1,h2.2.2⟩
theorem HOps.valLe {u:AV} {Φ:St→Prop} (hg:guardR s.tmps (guardDst ops o)=some true) (e:(opR P G o.op).run s.tmps s.heap=some (.val v h')) (hl:Le u v) (hp:putA s.tmps o.dst u=some A') (h:HOps P G b ops l ⟨A',h'⟩ Φ):HOps P G b ops (o::l) s Φ:=by
 intro i N h0 pl0 M0 w0 a w Q hb hl' hs hQ
 have ho:ops[i]? = some o:=by simpa using hl' 0
 obtain ⟨pl,M,g1,g2,g3,g4,g5⟩:=hs.ex
 simp only [List.length_cons,List.range'_succ,wpOps,ho]
 rw [guardR_ok g3 hg]
 simp only [if_true]
 left
 obtain ⟨dst,op,ty,pos,after,guard⟩:=o
 obtain ⟨pl',M',cv,w',nx,q1,q2,q3,q4,q5,q6⟩:=ok_all (P:=P) (G:=G) op pl M s.tmps s.heap v h' a w dst ty pos after guard g1 g2 g3 e
 obtain ⟨p1,p2⟩:=putA_ok (g3.mono q5.ext q5.mem) (hl _ _ _ q3) (by rw [hs.n];exact hs.small) hp
 have key:SNow G N h0 pl0 M0 w0 ⟨A',h'⟩ (a.put dst cv) w':=
  ⟨⟨pl',M',g1.mono q5.ext q5.mem,q4,p1,g4.trans q5 g5,Nat.le_trans g5 q6⟩,by rw [← hs.n];exact p2,hs.small⟩
 have nxt:=h (i+1) N h0 pl0 M0 w0 _ w' Q hb (fun j=>by have:=hl' (j+1);simpa [Nat.add_assoc,Nat.add_comm 1 j] using this) key hQ
 unfold Oper.wp
 rw [q1]
 rcases q2 with rfl | ⟨rfl,rfl⟩
 ·exact nxt
 ·exact nxt
theorem DSpec.effS {F:Fr} {h1:AHeap} (hg:guardR ⟨F.n,lookFr F (o.looksAt ops) .nil⟩ (guardDst ops o)=some true) (e:(opR P G o.op).run ⟨F.n,lookFr F (o.looksAt ops) .nil⟩ h=some (.call f args))
  (ht:topsAt F h.n (o.looksAt ops)=true) (ho : ∀ id o',h.get id=some o'→o'.top≤h.n) (hle:h.n≤h1.n) (hsame : ∀ id,id<h.n→h1.get id=h.get id) (hf:HCall P G f args h (fun v1 h2=>v1=v∧h2=h1)) :
  DSpec P G ops o (o.looksAt ops) F h v h1 ⟨⟨true, [],h.n,h.n⟩,⟨false, [],h.n,h1.n⟩⟩:=by
 refine ⟨hle,fun id o' hno hg1=>?_,fun id k1 k2=> .inr (.inr ⟨k1,k2⟩),?_⟩
 ·have hlt:=(AHeap.get_some.1 hg1).1
  rcases Nat.lt_or_ge id h.n with k | k
  ·rw [hsame id k] at hg1;exact hg1
  ·exact absurd (.inr (.inr ⟨k,hlt⟩)) hno
 ·intro nk n0 g pl M a w K Q hn0 hnk hbig hr hvis hU hG hs hdf hF hK
  have hf0:FrRel pl M ⟨F.n,lookFr F (o.looksAt ops) .nil⟩ a:=lookFr_rel hs hdf hF
  rw [guardR_ok hf0 hg]
  simp only [if_true]
  left
  have hvg : ∀ id o,h.get id=some o→g id=some o:=fun id o' hh=>hvis id o' (.inl ⟨rfl,(AHeap.get_some.1 hh).1⟩) hh
  have hfr:=cut_look (M:=M) hs hdf ht hF
  let W:Nat→Prop:=fun id=>h.n≤id∧id<h1.n
  refine shown_callH (W:=W) hr (Nat.le_refl _) hvg ho hfr hG e hf (.inr hnk) hU (fun id k1 k2 k3=>hsame id k1) (fun id k1 k2=>?_) (fun id k1=>k1.2) (fun id k1 k2=>⟨k1,k2⟩) ?_
  ·have:=k1.1;omega
  ·intro cv w' pl' M' r1 r2 r3 r4 r5
   refine hK cv w' pl' M' _ r1 (r2.weaken hn0) r3 r4 (fun id hp hh=>?_) (fun id hno=>mergeG_out fun hW=>?_) (fun id o' hyes hg1=>?_)
   ·rcases hh with hh | hh
    ·exact r2.new id hh hp
    ·rw [r5 id hh];exact hp
   ·exact hno (.inr (.inr hW))
   ·have hW:W id:=by
     rcases hyes with ⟨k1,k2⟩ | k | k
     ·cases k1
     ·simp at k
     ·exact k
    rw [mergeG_in hW];exact hg1
theorem DSpec.eff {F:Fr} {h1:AHeap} (hg:guardR ⟨F.n,lookFr F (o.looksAt ops) .nil⟩ (guardDst ops o)=some true) (e:(opR P G o.op).run ⟨F.n,lookFr F (o.looksAt ops) .nil⟩ h=some (.call f args))
  (ht:topsAt F h.n (o.looksAt ops)=true) (ho : ∀ id o',h.get id=some o'→o'.top≤h.n) (hle:h.n≤h1.n) (hfew : ∀ id,id<h.n→h.get id=none→h1.get id=none) (hf:HCall P G f args h (fun v1 h2=>v1=v∧h2=h1)) :
  DSpec P G ops o (o.looksAt ops) F h v h1 ⟨⟨true, [],h.n,h.n⟩,⟨true, [],h.n,h1.n⟩⟩:=by
 refine ⟨hle,fun id o' hno hg1=>?_,fun id k1 k2=> .inr (.inr ⟨k1,k2⟩),?_⟩
 ·have hlt:=(AHeap.get_some.1 hg1).1
  rcases Nat.lt_or_ge id h.n with k | k
  ·exact absurd (.inl ⟨rfl,k⟩) hno
  ·exact absurd (.inr (.inr ⟨k,hlt⟩)) hno
 ·intro nk n0 g pl M a w K Q hn0 hnk hbig hr hvis hU hG hs hdf hF hK
  have hf0:FrRel pl M ⟨F.n,lookFr F (o.looksAt ops) .nil⟩ a:=lookFr_rel hs hdf hF
  rw [guardR_ok hf0 hg]
  simp only [if_true]
  left
  have hvg : ∀ id o,h.get id=some o→g id=some o:=fun id o' hh=>hvis id o' (.inl ⟨rfl,(AHeap.get_some.1 hh).1⟩) hh
  have hfr:=cut_look (M:=M) hs hdf ht hF
  let W:Nat→Prop:=fun id=>(id<h.n∧h.get id≠none)∨(h.n≤id∧id<h1.n)
  refine shown_callH (W:=W) hr (Nat.le_refl _) hvg ho hfr hG e hf (.inr hnk) hU (fun id k1 k2 k3=>absurd (.inl ⟨k1,k3⟩) k2) (fun id k1 k2=>?_) (fun id k1=>?_) (fun id k1 k2=> .inr ⟨k1,k2⟩) ?_
  ·rcases k1 with ⟨_,k⟩ | ⟨k,_⟩
   ·exact k
   ·omega
  ·rcases k1 with ⟨k,_⟩ | ⟨_,k⟩ <;> omega
  ·intro cv w' pl' M' r1 r2 r3 r4 r5
   refine hK cv w' pl' M' _ r1 (r2.weaken hn0) r3 r4 (fun id hp hh=>?_) (fun id hno=>mergeG_out fun hW=>?_) (fun id o' hyes hg1=>?_)
   ·rcases hh with hh | hh
    ·exact r2.new id hh hp
    ·rw [r5 id hh];exact hp
   ·rcases hW with ⟨k1,k2⟩ | k
    ·exact hno (.inl ⟨rfl,k1⟩)
    ·exact hno (.inr (.inr k))
   ·have hW:W id:=by
     rcases hyes with ⟨k1,k2⟩ | k | k
     ·refine .inl ⟨k2,fun hn=>?_⟩
      rw [hfew id k2 hn] at hg1;cases hg1
     ·simp at k
     ·exact .inr k
    rw [mergeG_in hW];exact hg1
theorem HOps.skip {Φ:St→Prop} (hg:guardR s.tmps (guardDst ops o)=some false) (hp:putA s.tmps o.dst undefA=some A') (h:HOps P G b ops l ⟨A',s.heap⟩ Φ):HOps P G b ops (o::l) s Φ:=by
 refine HOps.one (call:=noCall) noCall_ok ?_ h
 simp [stepR,oneOper,hg,fin,hp]
end
end Go.Ev
