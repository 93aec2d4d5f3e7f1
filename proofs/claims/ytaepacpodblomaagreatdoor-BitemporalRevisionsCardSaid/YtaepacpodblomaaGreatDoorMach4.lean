/- An abstract machine for runs of the program, proved sound against the model: part 4. No conditions. -/
import Derived.Test.YtaepacpodblomaaGreatDoorMach3
import Derived.OpenShut
import Derived.ChangeArms
import Derived.ProofKit
import Derived.LaidMore
import Derived.IntWalk
namespace Go.Ev
open Go
def sj(P:Program)(G:eg)(ops:Array Oper):Nat→List Oper→Fr→AHeap→List Rec→(Fr→AHeap→Prop)→Prop
 |_,[],F,h,_,Φ=>h.n≤1000000∧Φ F h
 |k,o::rest,F,h,rs,Φ=>∃v h1 r F',DSpec P G ops o (o.looksAt ops) F h v h1 r∧kR (eu (dO ops.toList 0 []) k) r rs k=true∧iI F o.dst v=some F'∧sj P G ops (k+1) rest F' h1 (r::rs) Φ
section
variable{P:Program}{G:eg}{b:Option Nat}{ops:Array Oper}{l:List Oper}{o:Oper}{s s':St}{h h':AHeap}{v:AV}{A A':Fr}{call:cX}{f:FuncId}{args:List AV}{c d:Code}
theorem Hg:∀(l:List Oper)(k:Nat)(hs0:Nat→AHeap)(Fs0:Nat→Fr)(vs0:Nat→AV)(rc0:Nat→Rec)(Φ:Fr→AHeap→Prop),sj P G ops k l (Fs0 k) (hs0 k) (fF rc0 k) Φ→
  ∃(hs:Nat→AHeap)(Fs:Nat→Fr)(vs:Nat→AV)(rc:Nat→Rec),(∀i,i≤k→hs i=hs0 i∧Fs i=Fs0 i)∧(∀i,i<k→vs i=vs0 i∧rc i=rc0 i)∧
   (∀j o,l[j]?=some o→DSpec P G ops o (o.looksAt ops) (Fs (k+j)) (hs (k+j)) (vs (k+j)) (hs (k+j+1)) (rc (k+j)))∧
   (∀j o,l[j]?=some o→iI (Fs (k+j)) o.dst (vs (k+j))=some (Fs (k+j+1)))∧
   (∀j o,l[j]?=some o→∀i,i<k+j→MU (rc i) (rc (k+j))→Nat.testBit (eu (dO ops.toList 0 []) (k+j)) i=true)∧
   (hs (k+l.length)).n≤1000000∧Φ (Fs (k+l.length)) (hs (k+l.length))
 |[],k,hs0,Fs0,vs0,rc0,Φ,e=>by
  obtain⟨e1,e2⟩:=e;exact⟨hs0,Fs0,vs0,rc0,fun _ _=>⟨rfl,rfl⟩,fun _ _=>⟨rfl,rfl⟩,fun j d h=>by simp_all,fun j d h=>by simp_all,fun j d h=>by simp_all,by omega,by omega⟩
 | o::r,k,hs0,Fs0,vs0,rc0,Φ,e=>by
  obtain⟨v,h',rec,F',ho,hcl,hp,e⟩:=e;let hs1:Nat→AHeap:=fun i=>if i=k+1 then h' else hs0 i
  let Fs1:Nat→Fr:=fun i=>if i=k+1 then F' else Fs0 i
  let vs1:Nat→AV:=fun i=>if i=k then v else vs0 i
  let rc1:Nat→Rec:=fun i=>if i=k then rec else rc0 i
  have er:rec::fF rc0 k=fF rc1 (k+1):=by
   simp only[fF];grind[oH]
  have e2:sj P G ops (k+1) r (Fs1 (k+1)) (hs1 (k+1)) (fF rc1 (k+1)) Φ:=by grind
  obtain⟨hs,Fs,vs,rc,a1,a2,a3,a4,a5,a6,a7⟩:=Hg r (k+1) hs1 Fs1 vs1 rc1 Φ e2;have hk:=a1 k (by omega);have hk1:=a1 (k+1) (by omega);have hvk:=a2 k (by omega);simp only[hs1,Fs1,show ¬k=k+1 by omega,if_false,if_true]at hk hk1;simp only[vs1,rc1,if_true]at hvk;refine⟨hs,Fs,vs,rc,fun i hi=>?_,fun i hi=>?_,fun j d' hj=>?_,fun j d' hj=>?_,fun j d' hj i hi hc=>?_,?_,?_⟩
  ·grind
  ·grind
  ·grind
  ·grind
  ·match j,hj with
   |0,hj=>
    simp at hj;subst hj;simp only[pf]at hi hc ⊢;have hri:=(a2 i (by omega)).2;simp only[rc1,show ¬i=k by omega,if_false]at hri;rw[hri,hvk.2]at hc;have hcl':kR (eu (dO ops.toList 0 []) k) rec (fF rc0 k) (fF rc0 k).length=true:=by grind[mr]
    have:=sC hcl' (k-1-i) (rc0 i) (sn rc0 k i hi) hc;grind[mr]
   |j+1,hj=>grind
  all_goals grind
noncomputable def Eg(P:Program)(G:eg)(ops:Array Oper):Bool:=AF ops.toList&&Region.noSelect ops&&(mA P G ops (dO ops.toList 0 []) ops.toList 0).isSome
theorem aB.draw{Φ:AExit→St→Prop}{id:Nat}(hm:P.follows .mixedOrders=true)(hfit:Eg P G ops=true)(h:sj P G ops 0 ops.toList s.tmps s.heap [] fun F hp=>Φ .normal ⟨F,hp⟩):aB P G b (.region id ops true) s Φ:=by
 intro N h0 pl0 M0 w0 a w Q hb hsn hQ;unfold Eg at hfit;simp only[bx]at hfit;obtain⟨⟨hck1,hck2⟩,hck3⟩:=hfit;obtain⟨ds,hrd⟩:=Option.isSome_iff_exists.1 hck3;obtain⟨⟨pl,M,g1,g2,g3,g4,g5⟩,hn,hsm⟩:=hsn;obtain⟨hs,Fs,vs,rc,a1,_,D1,D2,D3,D4,D5⟩:=Hg ops.toList 0 (fun _=>s.heap) (fun _=>s.tmps) (fun _=>gU) (fun _=>⟨⟨false,[],0,0⟩,⟨false,[],0,0⟩⟩) _ h;obtain⟨e1,e2⟩:=a1 0 (ar _);obtain⟨hlen,hget⟩:=oI hrd;have hl:ops.toList.length=ops.size:=by simp
 simp only[eE]at D1 D2 D3;rw[eE,hl]at D4 D5;have R:Reg P G zp ops N hs Fs vs rc:=by
  refine⟨hsm,by simp_all,fun t u h=>?_,D4,fun j o ho=>?_,fun j o ho=>?_,fun j o ho i hi hcl=>?_,fun j o ho=>?_,fun j o ho=>?_,fun i j oi oj t hi hj=>wZ hck1 i j oi oj t (by simp_all) (by simp_all)⟩;all_goals grind[cases FrRel]
 refine wp_region_any hm (Sd R (h0:=s.heap) (pl0:=pl) (M0:=M) (w0:=w) g1 g2.dom (by simp_all) (fun a1 w1 h1=>?_) ops.size _ a _ (by simp) ?_ ?_)
 ·obtain⟨pl1,M1,k1,k2,k3⟩:=h1;refine hQ .normal _ a1 w1 D5 ⟨⟨pl1,M1,g1.mono k2.ext k2.mem,k1,k3,g4.trans k2 g5,?_⟩,(R.frame ops.size (ar _)).1,hsm⟩;have:=R.mono (bH ops.size) (ar _);grind
 ·simp_all
 ·have hno:∀j,¬(Array.replicate ops.size false).getD j false=true:=by simp_all[Array.getD]
  refine⟨fun i hi=>absurd hi (hno i),⟨pl,M,s.heap.get,?_,?_,fun id m o hm ha _ hg=>?_,fun j hj _ id h1 h2=>?_,fun j o t _ h=>absurd h (hno j),fun t u _ hu=>?_⟩,by rw[g3.size];omega,g3.defers⟩
  ·refine⟨fun id p hp=>?_,g2.obj,g2.blk,g2.inj,g2.imm,g2.sep⟩;have h1:=g2.dom id p hp;have:=R.mono (bH ops.size) (ar _);grind
  ·exact⟨nW.refl _,fun _ _ h=>h,fun _ _ h=>h,ar _,fun _ _ _=>rfl,fun id p h=>.inl ⟨p,h,rfl⟩,fun _ _ _ h=>h,fun _ _ h _=>h,fun _ _ h=>.inl h,rfl,rfl,rfl,nO _⟩
  ·have:=R.back (j:=0) m (bH _) hm (fun i _ h2 hw=>hno i (ha i h2 hw)) hg;simp_all
  ·cases hp:pl id with
   |none=>rfl
   |some p=>
    have h3:=g2.dom id p hp;have:=R.mono (bH j) (by omega);grind
  grind[cases FrRel]
theorem DSpec.of(hc:cq P G call){F:Fr}{h1:AHeap}{r:Rec}(e:Es call F h ⟨bG P G ops o,o.looksAt ops,da o.op,cS o.op,0⟩=some (v,h1,r)):DSpec P G ops o (o.looksAt ops) F h v h1 r:=LN hc rfl rfl e
theorem DSpec.pure(hG:iF G){F:Fr}(hg:ed ⟨F.n,bM F (o.looksAt ops) .nil⟩ (ez ops o)=some true)(e:(fX P G o.op).run ⟨F.n,bM F (o.looksAt ops) .nil⟩ h=some (.call f args))
  (ht:ax args=0)(hv:v.top=0)(hf:aA P G f args v):DSpec P G ops o (o.looksAt ops) F h v h ⟨⟨false,[],0,0⟩,⟨false,[],0,0⟩⟩:=by
 refine⟨ar _,fun _ _ _ h=>h,fun id h1 h2=>by omega,?_⟩;intro nk n0 g pl M a w K Q hn0 hnk hbig hr hvis hU hG' hs hdf hF hK;have hf0:FrRel pl M ⟨F.n,bM F (o.looksAt ops) .nil⟩ a:=gM hs hdf hF;rw[fy hf0 hg];simp only[if_true];left;have hG2:pb G pl M:=hG'.none hG;obtain⟨vs,q1,q2⟩:=uQ (P:=P) (w:=w) hG2 hf0 e;have fin:∀h1 cv w',iX (fun _=>none) M AHeap.none w v h1 cv w'→K (a.put o.dst cv) w':=by
  intro h1 cv w' ⟨pl',M',k1,k2,k3,k4⟩;obtain⟨z1,z2⟩:=vF (m:=n0) hr k2 k3;exact hK cv w' pl M' g z1 z2 (k1.none hv) (nW.refl _) (fun id h _=>h) (fun _ _=>rfl) (fun id o' hh=>absurd hh (rj (ids:=[])))
 unfold Oper.wp;rw[q2];rcases hf AHeap.none (fun _=>none) M w vs (hG2.none hG) (qw hr) (q1.none ht)with⟨k1,k2⟩|⟨cv,w',v',h',k1,⟨rfl,rfl⟩,k3⟩
 ·rw[k1];refine Calls.mono k2 fun en w'' ⟨cv,v',h',e1,e2,e3⟩=>?_
  grind
 ·rw[k1];exact fin _ cv w' k3
end
end Go.Ev
namespace Go.Ev
open Go
noncomputable section
def DP:List (Nat×AV)→Tr AV→Tr AV
 |[],t=>t
 |p::r,t=>DP r (match Nat.blt p.1 60000 with|true=>t.set 16 p.1 p.2|false=>t)
def dT(n:Nat)(L:List (Nat×AV)):Fr:=⟨n,DP L .nil⟩
def D8:List AObj→Nat→Tr AObj→Tr AObj
 |[],_,t=>t
 |o::r,i,t=>D8 r (i+1) (match Nat.blt i 1000000 with|true=>t.set 20 i o|false=>t)
def ab(L:List AObj):AHeap:=⟨L.length,D8 L 0 .nil⟩
def pZ(A:Fr):List Nat→Option (List AV)
 |[]=>some []
 |t::r=>match A.get t with
  |some v=>match pZ A r with|some vs=>some (v::vs)|none=>none
  |none=>none
section
variable{P:Program}{G:eg}{b:Option Nat}{ops:Array Oper}{l:List Oper}{o:Oper}{s s':St}{h h':AHeap}{v:AV}{A A':Fr}{call:cX}{f:FuncId}{args:List AV}{c d:Code}
theorem zc:∀{L:List (Nat×AV)}{t:Tr AV}{x:Nat}{v:AV},(DP L t).get x=some v→(x,v)∈L∨t.get x=some v
 |[],t,x,v,h=>.inr h
 | p::r,t,x,v,h=>by
  simp only[DP]at h;rcases zc h with h1|h1
  ·exact .inl (e9 _ h1)
  ·rw[dh]at h1;by_cases hlt:p.1<60000
   ·simp only[hlt,decide_true]at h1;rcases iE 16 t p.1 p.2 x v (Nat.lt_trans (Nat.succ_lt_succ hlt) (by decide)) h1 with⟨rfl,rfl⟩|⟨_,h2⟩
    ·exact .inl (by simp)
    ·exact .inr h2
   ·simp only[hlt,decide_false]at h1;exact .inr h1
theorem uJ{n:Nat}{L:List (Nat×AV)}{x:Nat}{v:AV}(h:(dT n L).get x=some v):(x,v)∈L:=by
 rcases zc (t:=.nil) h with h1|h1
 ·exact h1
 ·rw[fp]at h1;cases h1
theorem zl:∀{L:List AObj}{i:Nat}{t:Tr AObj}{x:Nat}{o:AObj},(D8 L i t).get x=some o→(i≤x∧L[x-i]?=some o)∨t.get x=some o
 |[],i,t,x,o,h=>.inr h
 | q::r,i,t,x,o,h=>by
  simp only[D8]at h;rcases zl h with⟨h1,h2⟩|h1
  ·exact .inl ⟨by omega,by rw[show x-i=(x-(i+1))+1 by omega];simpa using h2⟩
  ·rw[dh]at h1;by_cases hlt:i<1000000
   ·simp only[hlt,decide_true]at h1;rcases iE 20 t i q x o (Nat.lt_trans (Nat.succ_lt_succ hlt) (by decide)) h1 with⟨rfl,rfl⟩|⟨_,h2⟩
    ·exact .inl ⟨ar _,by simp⟩
    ·exact .inr h2
   ·simp only[hlt,decide_false]at h1;exact .inr h1
theorem na{L:List AObj}{x:Nat}{o:AObj}(h:(ab L).get x=some o):L[x]?=some o:=by
 obtain⟨_,_,h3⟩:=AHeap.get_some.1 h;rcases zl (t:=.nil) h3 with⟨_,h1⟩|h1
 ·simpa using h1
 ·rw[fp]at h1;cases h1
theorem Ac:∀{ts:List Nat}{vs:List AV},pZ A ts=some vs→∀t v,(t,v)∈ts.zip vs→A.get t=some v
 |[],vs,_,t,v,h=>by simp at h
 | x::r,vs,e,t,v,h=>by
  simp only[pZ]at e;cases hx:A.get x with
  |none=>simp[hx]at e
  | some u=>
   cases hr:pZ A r with
   |none=>simp[hx,hr]at e
   |some us=>
    simp[hx,hr]at e;subst e;simp only[List.zip_cons_cons,fw,tY]at h;rcases h with⟨rfl,rfl⟩|h
    ·exact hx
    ·exact Ac hr t v h
structure SubSt2(s' s:St):Prop where
 n:s'.tmps.n=s.tmps.n
 tmps:∀t v,s'.tmps.get t=some v→s.tmps.get t=some v
 hn:s.heap.n≤s'.heap.n
 objs:∀id o,s'.heap.get id=some o→s.heap.get id=some o
end
end
end Go.Ev
namespace Go.Ev
open Go
section
variable{H:Type}
def ca(w:World):dn:=fun b=>match w.heap[b]? with|some (.cells c _ _)=>some c|_=>none
theorem I4{w:World}{b:Nat}{c:Array Value}(h:ca w b=some c):∃t fr,w.heap[b]?=some (.cells c t fr):=by
 unfold ca at h;split at h
 ·rename_i c' t fr q;cases h
  exact⟨t,fr,q⟩
 ·cases h
theorem NX(w:World):cF (fun _=>none) (ca w) AHeap.none w:=⟨fun _ _ h=>by simp at h,fun _ _ _ h=>by simp at h,fun _ _ h=>by simp at h,fun _ _ _ _ h=>by simp at h,fun _ _ h=>I4 h,fun _ _ h=>by simp at h⟩
def wQ(ag:Bool):List AV→Option AV
 | xs=>match ag with
  |true=>some (.agg xs)
  |false=>match xs with
   |[x]=>some x
   |_=>none
def wK(f:DataW H→Option (List AV))(ag:Bool)(sz:Nat):List (DataW H)→Option (List AV)
 |[]=>some []
 | d::r=>match f d with
  |some xs=>match Nat.beq xs.length sz,wQ ag xs,wK f ag sz r with
   |true,some x,some ys=>some (x::ys)
   |_,_,_=>none
  |none=>none
def lg(P:Program)(f:TypeId→DataW H→Option (List AV)):List Field→List (DataW H)→Nat→Option (List AV)
 |[],[],_=>some []
 | x::fs,d::ds,off=>match f x.type d with
  |some xs=>match Nat.beq x.offset off&&Nat.beq xs.length (P.cellsOf x.type),lg P f fs ds (off+P.cellsOf x.type)with
   |true,some ys=>some (xs++ys)
   |_,_=>none
  |none=>none
 |_,_,_=>none
def ru(f:DataW H→Option (List AV))(sz:Nat):List (DataW H)→Option (List AV)
 |[]=>some []
 | d::r=>match f d with
  |some xs=>match Nat.beq xs.length sz,ru f sz r with
   |true,some ys=>some (xs++ys)
   |_,_=>none
  |none=>none
def Ae(n:Nat):Option (List AV)→Option (List AV)
 |some xs=>match Nat.beq xs.length n with|true=>some xs|false=>none
 |none=>none
def EM(P:Program):Nat→TypeId→DataW H→Option (List AV)
 |0,_,_=>none
 | k+1,t,d=>
  match P.underlying t,d with
  |some .bool,.lit (.bool b)=>some [.bool b]
  |some (.int _),.lit (.int k n)=>some [.int k n]
  |some .string,.lit (.string s)=>some [.str s]
  |some (.slice _),.nil=>some [.nils]
  |some (.slice e),.slice es _=>match cL P e,wK (EM P k e) ((cL P e).getD false) (P.cellsOf e) es,Nat.blt 0 (P.cellsOf e)with
   |some _,some xs,true=>some [.ps xs false]
   |_,_,_=>none
  |some (.struct fs),.agg ds=>Ae (P.cellsOf t) (lg P (EM P k) fs.toList ds 0)
  |some (.array _ e),.agg ds=>Ae (P.cellsOf t) (ru (EM P k e) (P.cellsOf e) ds)
  |_,_=>none
variable{enc:TypeId×Value→H}{P:Program}{w:World}{base:Nat}{spare:Nat→Bool}{held:Bool}
theorem VRels.appendL{pl:Pl}{M:dn}{xs ys:List AV}{a b:List Value}(h:VRels pl M xs a.toArray)(k:VRels pl M ys b.toArray):VRels pl M (xs++ys) (a++b).toArray:=by
 have h1:=h.len;have k1:=k.len;simp only[CY]at h1 k1;refine⟨by simp[h1,k1],fun j y hj=>?_⟩;by_cases hlt:j<xs.length
 ·rw[wa hlt]at hj;have:=h.at_ j y hj;rw[gr]at this ⊢;simp only[nP]at this ⊢;rw[wa (by omega)];exact this
 ·rw[ph (by omega)]at hj;have:=k.at_ _ y hj;rw[gr]at this ⊢;simp only[nP]at this ⊢;rw[ph (by omega),←h1];exact this
theorem Da{a:Addr}{n:Nat}{cs:List Value}(h:w.cells? base a n=some cs):cs.length=n∧∀i,i<n→w.cell? (a.add i)=cs[i]?:=by
 unfold World.cells? at h;split at h
 ·have key:∀(l:List Nat)(cs:List Value),(l.mapM fun i=>w.cell? (a.add i))=some cs→cs.length=l.length∧∀(i j:Nat),l[i]?=some j→w.cell? (a.add j)=cs[i]?:=by
   intro l;induction l with
   |nil=>intro cs h;simp at h;subst h;exact⟨rfl,fun i j h=>by simp at h⟩
   |cons x r ih=>
    intro cs h;simp only[List.mapM_cons,Option.bind_eq_bind,Option.bind_eq_some_iff,Option.pure_def,xm]at h;obtain⟨v,h1,vs,h2,rfl⟩:=h;obtain⟨k1,k2⟩:=ih vs h2;refine⟨by simp[k1],fun i j hij=>?_⟩;cases i with
    |zero=>simp at hij;subst hij;simpa using h1
    |succ i=>simpa using k2 i j (by simpa using hij)
  obtain⟨k1,k2⟩:=key _ _ h;exact⟨by simpa using k1,fun i hi=>k2 i i (by simp[hi])⟩
 ·cases h
theorem rm{a:Addr}{v:Value}(h:w.cell? a=some v):a.spot=none∧∃c,ca w a.block=some c∧c[a.off]?=some v:=by
 unfold World.cell? at h;unfold ca;split at h
 ·rename_i c t fr q;split at h
  ·cases h
  ·rename_i hs;exact⟨by simpa using hs,c,by rw[q],h⟩
 ·cases h
theorem xV{n:Nat}{o:Option (List AV)}{xs:List AV}(h:Ae n o=some xs):o=some xs∧xs.length=n:=by
 cases o with
 |none=>simp[Ae]at h
 |some ys=>
  simp only[Ae,aD]at h;by_cases q:ys.length=n
  ·simp[q]at h;subst h;exact⟨rfl,q⟩
  ·simp[q]at h
theorem ur{ag:Bool}{xs:List AV}{x:AV}(h:wQ ag xs=some x)(hs:∀y,y∈xs→cH y=true):x.cells=xs∧Sc x:=by
 unfold wQ at h;cases ag with
 |true=>
  simp at h;subst h;exact⟨rfl,hs⟩
 | false=>
  simp only[]at h;split at h
  ·cases h
   have h1:=hs x (by simp);have e:x.cells=[x]:=by cases x<;>simp_all[cH,AV.cells]
   exact⟨e,fun z hz=>by rw[e]at hz;simp at hz;subst hz;exact h1⟩
  ·cases h
theorem uS{f:TypeId→DataW H→Option (List AV)}{tr:TypeId→List Value→Option (DataW H×List MemPlace)}{pl:Pl}{M:dn}{cs:List Value}
  (ih:∀t cs d p xs,f t d=some xs→tr t cs=some (d,p)→VRels pl M xs cs.toArray∧∀x,x∈xs→cH x=true):
  ∀(fs:List Field)(ds:List (DataW H×List MemPlace))(off:Nat)(xs:List AV),lg P f fs (ds.map (·.1)) off=some xs→(∀(i:Nat)(x:Field),fs[i]?=some x→tr x.type ((cs.drop x.offset).take (P.cellsOf x.type))=ds[i]?)→off+xs.length=cs.length→
   VRels pl M xs (cs.drop off).toArray∧∀x,x∈xs→cH x=true
 |[],[],off,xs,e,_,hl=>by
  simp[lg]at e;subst e;simp only[gp,pf]at hl;refine⟨⟨by simp;omega,fun j y h=>by simp at h⟩,fun x h=>by simp at h⟩
 |[],_::_,_,_,e,_,_=>by simp[lg]at e
 |_::_,[],_,_,e,_,_=>by simp[lg]at e
 | x::fs,d::ds,off,xs,e,h,hl=>by
  simp only[eh,lg]at e;cases hf:f x.type d.1 with
  |none=>rw[hf]at e;simp at e
  | some ys=>
   rw[hf]at e;simp only[]at e;cases hr:lg P f fs (ds.map (·.1)) (off+P.cellsOf x.type)with
   |none=>rw[hr]at e;simp at e
   | some zs=>
    rw[hr]at e;simp only[aD]at e;by_cases q:x.offset=off∧ys.length=P.cellsOf x.type
    ·obtain⟨q1,q2⟩:=q;simp[q1,q2]at e;subst e;simp only[dH]at hl;have h0:=h 0 x rfl;simp only[CW]at h0;obtain⟨k1,k2⟩:=ih _ _ d.1 d.2 ys hf h0;obtain⟨k3,k4⟩:=uS ih fs ds (off+P.cellsOf x.type) zs hr (fun i y hy=>by simpa using h (i+1) y (by simpa using hy)) (by omega);rw[q1]at k1;have e2:cs.drop off=(cs.drop off).take (P.cellsOf x.type)++cs.drop (off+P.cellsOf x.type):=by rw[←yp,JR]
     rw[e2];exact⟨k1.appendL k3,fun y hy=>(iR.1 hy).elim (k2 y) (k4 y)⟩
    ·exfalso;rcases Classical.not_and_iff_not_or_not.1 q with q|q<;>simp[q]at e
theorem xh{f:DataW H→Option (List AV)}{tr:List Value→Option (DataW H×List MemPlace)}{sz:Nat}{pl:Pl}{M:dn}{cs:List Value}
  (ih:∀cs d p xs,f d=some xs→tr cs=some (d,p)→VRels pl M xs cs.toArray∧∀x,x∈xs→cH x=true):
  ∀(ds:List (DataW H×List MemPlace))(n:Nat)(xs:List AV),ru f sz (ds.map (·.1))=some xs→(∀i,i<ds.length→tr ((cs.drop ((n+i)*sz)).take sz)=ds[i]?)→n*sz+xs.length=cs.length→
   VRels pl M xs (cs.drop (n*sz)).toArray∧∀x,x∈xs→cH x=true
 |[],n,xs,e,_,hl=>by
  simp[ru]at e;subst e;simp only[gp,pf]at hl;refine⟨⟨by simp;omega,fun j y h=>by simp at h⟩,fun x h=>by simp at h⟩
 | d::ds,n,xs,e,h,hl=>by
  simp only[eh,ru]at e;cases hf:f d.1 with
  |none=>rw[hf]at e;simp at e
  | some ys=>
   rw[hf]at e;simp only[]at e;cases hr:ru f sz (ds.map (·.1))with
   |none=>rw[hr]at e;simp at e
   | some zs=>
    rw[hr]at e;simp only[aD]at e;by_cases q2:ys.length=sz
    ·simp[q2]at e;subst e;simp only[dH]at hl;have h0:=h 0 (by simp);simp only[CW,pf]at h0;obtain⟨k1,k2⟩:=ih _ d.1 d.2 ys hf h0;obtain⟨k3,k4⟩:=xh ih ds (n+1) zs hr (fun i hi=>by have:=h (i+1) (by simpa using hi);rw[show n+(i+1)=n+1+i by omega]at this;simpa using this) (by rw[qZ];omega);have e2:cs.drop (n*sz)=(cs.drop (n*sz)).take sz++cs.drop ((n+1)*sz):=by rw[qZ,←yp,JR]
     rw[e2];exact⟨k1.appendL k3,fun y hy=>(iR.1 hy).elim (k2 y) (k4 y)⟩
    ·simp[q2]at e
theorem Bz{f:DataW H→Option (List AV)}{ag:Bool}{sz:Nat}:∀(ds:List (DataW H))(xs:List AV),wK f ag sz ds=some xs→xs.length=ds.length∧∀(i:Nat)(x:AV),xs[i]?=some x→∃d ys,ds[i]?=some d∧f d=some ys∧ys.length=sz∧wQ ag ys=some x
 |[],xs,e=>by simp[wK]at e;subst e;exact⟨rfl,fun i x h=>by simp at h⟩
 | d::r,xs,e=>by
  simp only[wK]at e;cases hf:f d with
  |none=>rw[hf]at e;simp at e
  | some ys=>
   rw[hf]at e;simp only[aD]at e;cases he:wQ ag ys with
   |none=>rw[he]at e;simp at e
   | some x=>
    cases hr:wK f ag sz r with
    |none=>rw[he,hr]at e;simp at e
    | some zs=>
     rw[he,hr]at e;by_cases q:ys.length=sz
     ·simp[q]at e;subst e;obtain⟨k1,k2⟩:=Bz r zs hr;refine⟨by simp[k1],fun i y hy=>?_⟩;cases i with
      |zero=>simp at hy;subst hy;exact⟨d,ys,rfl,hf,q,he⟩
      |succ i=>simpa using k2 i y (by simpa using hy)
     ·simp[q]at e
theorem tj:∀(k fuel:Nat)(t:TypeId)(cs:List Value)(d:DataW H)(p:List MemPlace)(xs:List AV),EM P k t d=some xs→DataW.trod enc P w base spare held fuel t cs=some (d,p)→
  VRels (fun _=>none) (ca w) xs cs.toArray∧∀x,x∈xs→cH x=true
 |0,_,_,_,_,_,_,e,_=>by simp[EM]at e
 | k+1,fuel,t,cs,d,p,xs,e,h=>by
  have one:∀{x:AV}{v:Value},VRel (fun _=>none) (ca w) x v→cH x=true→VRels (fun _=>none) (ca w) [x] [v].toArray∧∀y,y∈[x]→cH y=true:=by
   intro x v h1 h2;refine⟨⟨rfl,fun j y hj=>?_⟩,fun y hy=>by simp at hy;subst hy;exact h2⟩;cases j with
   |zero=>simp at hj;subst hj;simpa[Array.getD]using h1
   |succ j=>simp at hj
  unfold EM at e;split at e
  ·rename_i b ht;obtain⟨b',rfl,h1⟩:=DataW.trod_bool ht h;simp at h1 e;obtain⟨rfl,_⟩:=h1;subst e;exact one (.bool _) rfl
  ·rename_i k' k2 n ht;obtain⟨n',rfl,h1,_⟩:=DataW.trod_int ht h;simp at h1 e;obtain⟨⟨rfl,rfl⟩,_⟩:=h1;subst e;exact one (.int _ _) rfl
  ·rename_i s ht;obtain⟨s',rfl,h1,_⟩:=DataW.trod_string ht h;simp at h1 e;obtain⟨rfl,_⟩:=h1;subst e;exact one (.str _) rfl
  ·rename_i e' ht;simp at e;subst e;rcases DataW.trod_slice ht h with⟨rfl,_⟩|⟨a,len,cap,elems,rest,n,_,_,h1,_⟩
   ·exact one .nils rfl
   ·simp at h1
  ·rename_i e' es sp ht;rcases DataW.trod_slice ht h with⟨_,h1⟩|⟨a,len,cap,elems,rest,n,rfl,rfl,h1,h2,h3,h4,h5,h6,_,_⟩
   ·simp at h1
   ·simp only[tY,DataW.slice.injEq]at h1;obtain⟨⟨rfl,rfl⟩,_⟩:=h1;split at e
    ·rename_i ag ys hag hl hsz;simp at e;subst e;rw[dh]at hsz;simp only[decide_eq_true_eq]at hsz;obtain⟨q1,q2⟩:=Bz _ _ hl;have q1:ys.length=len:=by simpa[h5]using q1
     have el:∀(i:Nat)(x:AV),ys[i]?=some x→∃cs:List Value,cs.length=P.cellsOf e'∧(∀j,j<P.cellsOf e'→w.cell? ((a.add (i*P.cellsOf e')).add j)=cs[j]?)∧VRels (fun _=>none) (ca w) x.cells cs.toArray∧x.cells.length=P.cellsOf e'∧Sc x:=by
      intro i x hx;have hi:i<len:=by rw[←q1];exact(gy.1 hx).1
      obtain⟨d,zs,k1,k2,k3,k4⟩:=q2 i x hx;have k5:=h6 i hi;rw[qQ]at k1;cases hel:elems[i]? with
      |none=>rw[hel]at k1;simp at k1
      |some y=>
       rw[hel]at k1 k5;simp at k1;subst k1;simp only[Option.bind_eq_some_iff]at k5;obtain⟨cs,c1,c2⟩:=k5;obtain⟨z1,z2⟩:=Da c1;obtain⟨r1,r2⟩:=tj k n e' cs y.1 y.2 zs k2 c2;obtain⟨r3,r4⟩:=ur k4 r2;exact⟨cs,z1,z2,by rw[r3];exact r1,by rw[r3];exact k3,r4⟩
     have addadd:∀i j:Nat,a.spot=none→(a.add i).add j=⟨a.block,a.off+i+j,none⟩:=by
      intro i j hs;obtain⟨blk,off,spot⟩:=a;simp at hs;subst hs;by_cases hi:i=0<;>by_cases hj:j=0<;>simp[Addr.add,hi,hj]
     have spot:ys≠[]→a.spot=none:=by
      intro hne;obtain⟨x,hx⟩:∃x,ys[0]?=some x:=by
       cases ys with
       |nil=>exact absurd rfl hne
       |cons x r=>exact⟨x,rfl⟩
      obtain⟨cs,c1,c2,_⟩:=el 0 x hx;have:=c2 0 hsz;rw[lp (by omega)]at this;simp only[Nat.zero_mul]at this;have:=(rm this).1;simpa[Addr.add]using this
     have cell:∀(i j:Nat)(x:AV),ys[i]?=some x→j<P.cellsOf e'→∃c v,ca w a.block=some c∧c[a.off+i*P.cellsOf e'+j]?=some v∧∀y,x.cells[j]?=some y→VRel (fun _=>none) (ca w) y v:=by
      intro i j x hx hj;obtain⟨cs,c1,c2,c3,c4,_⟩:=el i x hx;have:=c2 j hj;rw[lp (by omega),addadd _ _ (spot (by intro h;rw[h]at hx;simp at hx))]at this;obtain⟨_,c,m1,m2⟩:=rm this;refine⟨c,_,m1,m2,fun y hy=>?_⟩;have:=c3.at_ j y hy;rw[gr]at this;simp only[nP]at this;rw[lp (by omega)]at this;exact this
     refine one ?_ rfl;by_cases hne:ys=[]
     ·subst hne;simp at q1;subst q1;exact .ps (sz:=P.cellsOf e') (c:=#[]) (by simp) (fun h=>by cases h) (fun h=>absurd rfl h) (fun x h=>by simp at h) (fun i x j y h=>by simp at h)
     ·have hlen:0<ys.length:=pT.2 hne;obtain⟨x0,hx0⟩:∃x,ys[ys.length-1]?=some x:=⟨ys[ys.length-1],by simp⟩
      obtain⟨c,v0,m1,m2,_⟩:=cell (ys.length-1) (P.cellsOf e'-1) x0 hx0 (by omega);have hc:=(ww.1 m2).1;have hfit:a.off+ys.length*P.cellsOf e'≤c.size:=by
       have h1:(ys.length-1)*P.cellsOf e'+P.cellsOf e'=ys.length*P.cellsOf e':=by rw[←qZ];congr 1;omega
       omega
      have:=VRel.ps (pl:=fun _=>none) (M:=ca w) (xs:=ys) (tight:=false) (a:=a) (cap:=cap) (sz:=P.cellsOf e') (c:=c) (by omega) (fun h=>by cases h) (fun _=>⟨spot hne,m1,hfit,hsz⟩)
       (fun x hx=>by
        obtain⟨i,hi⟩:=FV.1 hx;obtain⟨_,_,_,_,r1,r2⟩:=el i x hi;exact⟨r1,r2⟩)
       (fun i x j y hx hy=>by
        obtain⟨_,_,_,_,r1,_⟩:=el i x hx;have hj:j<P.cellsOf e':=by rw[←r1];exact(gy.1 hy).1
        obtain⟨c',v,n1,n2,n3⟩:=cell i j x hx hj;rw[m1]at n1;cases n1
        rw[gr,n2];exact n3 y hy)
      rw[q1]at this;exact this
    ·cases e
  ·rename_i fs ds ht;obtain⟨e1,e2⟩:=xV e;obtain⟨zs,n,rfl,h1,h2,h3,h4⟩:=DataW.trod_struct ht h;simp only[tY,DataW.agg.injEq]at h1;obtain⟨rfl,_⟩:=h1;have:=uS (P:=P) (cs:=cs) (f:=EM P k) (tr:=fun t cs=>DataW.trod enc P w base spare held n t cs) (fun t cs d p xs a b=>tj k n t cs d p xs a b) fs.toList zs 0 xs e1 (fun i x hx=>h4 i x (by simpa using hx)) (by omega);simpa using this
  ·rename_i n0 e' ds ht;obtain⟨e1,e2⟩:=xV e;obtain⟨zs,n,rfl,h1,h2,h3,h4⟩:=DataW.trod_array ht h;simp only[tY,DataW.agg.injEq]at h1;obtain⟨rfl,_⟩:=h1;have:=xh (cs:=cs) (f:=EM P k e') (tr:=fun cs=>DataW.trod enc P w base spare held n e' cs) (sz:=P.cellsOf e') (fun cs d p xs a b=>tj k n e' cs d p xs a b) zs 0 xs e1 (fun i hi=>by rw[eE];exact h4 i (by omega)) (by omega);simpa using this
  ·cases e
end
end Go.Ev
namespace Go.Ev
open Go Go.ChangeShapes Go.RowKit
section
variable{H:Type}{enc:TypeId×Value→H}{P:Program}{G:eg}{W W':World}
def Je:List (Nat×AV)→eg
 |[]=>fun _=>none
 |p::r=>fun g=>match Nat.beq p.1 g with|true=>some p.2|false=>Je r g
theorem AA:∀{l:List (Nat×AV)}{g:Nat}{x:AV},Je l g=some x→(g,x)∈l
 |[],g,x,h=>by simp[Je]at h
 |p::r,g,x,h=>by
  simp only[Je,aD]at h;by_cases q:p.1=g
  ·simp[q]at h;subst h;subst q;simp
  ·simp[q]at h;exact e9 _ (AA h)
theorem GL{l:List (Nat×AV)}{pl:Pl}{M:dn}(h:∀p,p∈l→SC pl M p.1 p.2):pb (Je l) pl M:=fun g x hg=>h (g,x) (AA hg)
theorem Ee{l:List (Nat×AV)}(h:(l.all fun p=>Nat.beq p.2.top 0)=true):iF (Je l):=fun g x hg=>by
 have:=nK.1 h _ (AA hg);simp_all
theorem GN{g:Nat}{cs:Array Value}{t:TypeId}{fr:Nat×Nat}{x:AV}(hc:W.heap[g]?=some (.cells cs t fr))(h:VRels (fun _=>none) (ca W) x.cells cs)(hs:Sc x)(hp:0<x.cells.length):
  SC (fun _=>none) (ca W) g x:=by
 have hM:ca W g=some cs:=by grind[ca]
 have hl:=h.len;have:=VRel.pptr (pl:=fun _=>none) (M:=ca W) (xs:=[x]) (i:=0) (off:=0) (a:=⟨g,0,none⟩) (sz:=x.cells.length) (c:=cs) ⟨rfl,hM,by simp_all,hp⟩
  (fun y hy=>by simp_all) (by simp) (fun i y j z hy hz=>by grind[cases VRels])
 exact⟨by simp_all,cs,hM,hl.symm⟩
theorem AW{laid:List (String×DataW Unit)}{n:String}{d:DataW Unit}(k:Nat){g:Nat}{t:TypeId}{xs:List AV}{x:AV}(h:laidMet P laid W)(hm:(n,d)∈laid)(hg:P.globalNamed n=some g)(ht:(P.globals[g]?).map (·.type)=some t)
  (ha:EM P k t d=some xs){ag:Bool}(he:wQ ag xs=some x)(hp:Nat.blt 0 xs.length=true):SC (fun _=>none) (ca W) g x:=by
 obtain⟨ps,hl,_,_⟩:=h;have key:∀(l:List (String×DataW Unit))(ps:List MemPlace),DataW.LaidVars P W l ps→(n,d)∈l→∃g t cs fuel p,P.globalNamed n=some g∧(P.globals[g]?).map (·.type)=some t∧W.var? P n=some cs∧DataW.trod (fun _=>()) P W 0 (fun _=>true) false fuel t cs.toList=some (d,p):=by
  intro l;induction l with
  |nil=>simp_all
  |cons q r ih=>
   obtain⟨n',d'⟩:=q;intro ps h hm;obtain⟨g,t,cs,fuel,p,q,h1,h2,h3,h4,h5,_⟩:=h;grind
 obtain⟨g',t',cs,fuel,p,h1,h2,h3,h4⟩:=key _ _ hl hm;rw[hg]at h1;cases h1
 rw[ht]at h2;cases h2
 obtain⟨r1,r2⟩:=tj k fuel t cs.toList d p xs ha h4;obtain⟨c1,c2⟩:=ur he r2;have hc:∃t fr,W.heap[g]?=some (.cells cs t fr):=by grind[World.var?]
 obtain⟨t2,fr,hc⟩:=hc;refine GN hc ?_ c2 ?_;all_goals simp_all
theorem T8{f:FuncId}{fn:Func}{c:Code}{args:List AV}{vs:Array Value}(hf:P.funcs[f]?=some fn)(hN:(fn.name== "runtime.NumGoroutine")=false)(hb:fn.body=some c)
  (hG:pb G (fun _=>none) (ca W))(hv:VRels (fun _=>none) (ca W) args vs)(h:aL P G f args AHeap.none (fun v _=>v=.bool true)):
  Calls P f vs W fun e W'=>e=.returned (.bool true)∧Below W.heap.size W W':=by
 have fin:∀cv v h' W',v=.bool true→iX (fun _=>none) (ca W) AHeap.none W v h' cv W'→cv=.bool true∧Below W.heap.size W W':=by
  intro cv v h' W' e ⟨pl',M',k1,k2,k3,k4⟩;subst e;cases k1
  exact⟨rfl,k3.os,k3.tape,k3.out,k3.size,fun b hb=>k3.kept b hb fun id p h=>by simp_all⟩
 rcases h (fun _=>none) (ca W) W vs hG (NX W) hv with⟨h1,h2⟩|⟨cv,w',v,h',h1,h2,h3⟩
 ·exact Calls.mono h2 fun e w' ⟨cv,v,h',k1,k2,k3⟩=>by grind
 simp_all[callFunc]
theorem r8(hl:laidOutB P=true)(hb:Below W.heap.size W W'):∀{ts:List TypeId}{vs:List Value}{ds:List (DataW H)}{ps:List MemPlace},(ts.all fun t=>P.readableRec t&&decide (t<P.types.size))=true→DataW.TrodAll enc P W 0 (fun _=>true) true ts vs ds ps→(∀x∈ps,x.block<W.heap.size)→
  DataW.TrodAll enc P W' 0 (fun b=>decide (b<W.heap.size)) true ts vs ds ps
 |[],[],[],_,_,h,_=>h
 |t::ts,v::vs,d::ds,ps,hr,h,hlt=>by
  obtain⟨p,q,h1,h2,rfl⟩:=h;simp only[List.all_cons,bx,decide_eq_true_eq]at hr;exact⟨p,q,hb.trod hl hr.1.1 hr.1.2 h1 (fun x hx=>hlt x (iR.2 (.inl hx))),r8 hl hb hr.2 h2 (fun x hx=>hlt x (iR.2 (.inr hx))),rfl⟩
 |[],_::_,_,_,_,h,_=>by grind[DataW.TrodAll]
 |[],[],_::_,_,_,h,_=>by grind[DataW.TrodAll]
 |_::_,[],_,_,_,h,_=>by grind[DataW.TrodAll]
 |_::_,_::_,[],_,_,h,_=>by grind[DataW.TrodAll]
theorem Qi{f:Func}{s:ChangeSpec}{args:Array Value}{ds gs:List (DataW H)}{before:List MemPlace}{tb:TypeId}(hl:laidOutB P=true)(hr:(f.params.toList.all fun t=>P.readableRec t&&decide (t<P.types.size))=true)
  (hvars:s.vars=[])(hfn:s.fn H (ds++gs)={results:=[.lit (.bool true)],args:=ds})(hres:f.resultTypes.toList=[tb])(htb:P.underlying tb=some .bool)
  (hW:DataW.Whole enc P f.params.toList s.vars false W args.toList ds gs before)(hb:Below W.heap.size W W'):s.post enc P f false true false false W args (.bool true) W':=by
 have hlt:=hW.lt;have hW0:=hW;obtain⟨p,q,hA,hV,rfl,hz,_⟩:=hW;have hV':=hV;rw[hvars]at hV';obtain⟨rfl,rfl⟩:=trodVars_none hV';simp only[dG]at hlt hz hfn;have hsz:f.resultTypes.size=1:=by rw[←Array.length_toList,hres];rfl
 refine⟨ds,[],p++[],[],p,[],hW0,?_,?_,?_,hb.frame _,fun h=>by grind⟩
 ·rw[dG,hfn,hres,hsz];exact trodAll_mk1 (shut_bool htb true)
 ·grind[r8]
 ·rw[dG,hfn,hvars];exact rfl
end
end Go.Ev
namespace Go.Ev
open Go
section
variable{P:Program}{G:eg}{b:Option Nat}{ops:Array Oper}{l:List Oper}{o:Oper}{s s':St}{h h' h1 hv:AHeap}{v:AV}{A A' F:Fr}{call:cX}{f:FuncId}{args:List AV}{c d:Code}{pl pl':Pl}{M M':dn}{w w':World}{a:Act}{r:Rec}
theorem wC{nk n0:Nat}{g:Nat→Option AObj}{W:Nat→Prop}{o:Oper}(hr:RepF pl M nk g w)(hn0:n0≤hv.n)(hvg:∀id o,hv.get id=some o→g id=some o)(ho:∀id o,hv.get id=some o→o.top≤hv.n)
  (hf:FrRel (c9 pl hv.n) M A a)(hg:pb G (c9 pl hv.n) M){f:FuncId}{args:List AV}(e:(fX P G o.op).run A hv=some (.call f args))(e2:aL P G f args hv (fun v1 h1=>v1=v∧h1=h'))(hnk:h'.n=hv.n∨h'.n≤nk)
  (hU:∀id,hv.n≤id→id<h'.n→pl id=none)(W1:∀id,id<hv.n→¬W id→hv.get id≠none→h'.get id=hv.get id)
  (W2:∀id,W id→id<hv.n→hv.get id≠none)(W3:∀id,W id→id<h'.n)(W4:∀id,hv.n≤id→id<h'.n→W id)
  {K:Act→World→Prop}{Q:Exit→Act→World→Prop}
  (hK:∀cv w' pl' M',RepF pl' M' nk (kQ W g h'.get) w'→StepF n0 g pl M w (kQ W g h'.get) pl' M' w'→VRel pl' M' v cv→nW pl pl'→(∀id,h'.n≤id→pl' id=pl id)→K (a.put o.dst cv) w'):
  o.wp P a w K Q:=by
 obtain⟨vs,k1,k2⟩:=uQ (P:=P) (w:=w) hg hf e;have fin:∀cv w1,iX (c9 pl hv.n) M hv w v h' cv w1→K (a.put o.dst cv) w1:=by
  intro cv w1 ⟨pl1,M1,q3,q4,q5,q6⟩;obtain⟨r1,r2,r3,r4⟩:=LY hr hn0 hvg q4 q5 q6 hnk hU W1 W2 W3 W4;exact hK cv w1 _ M1 r1 r2 (q3.mono r3 (fun _ _ h=>h)) r4 (fun id hid=>by grind[fK])
 unfold Oper.wp;rw[k2];rcases e2 _ M w vs hg (vd hr hvg ho) k1 with⟨q1,q2⟩|⟨cv,w1,v',h'',q1,⟨rfl,rfl⟩,q2⟩
 ·rw[q1];refine Calls.mono q2 fun en w'' ⟨cv,v',h'',e1,hh,e3⟩=>?_
  simp_all
 ·rw[q1];exact fin cv w1 q2
mutual
def ren(ρ:Nat→Nat):AV→AV
 | .ptr id a b c=>.ptr (ρ id) a b c
 | .slice id a b c d=>.slice (ρ id) a b c d
 | .sl0 id a b c=>.sl0 (ρ id) a b c
 | .map id=>.map (ρ id)
 | .func fn a b=>.func fn (lE ρ a) (lE ρ b)
 | .iface t v=>.iface t (ren ρ v)
 | .agg cs=>.agg (lE ρ cs)
 | .tuple cs=>.tuple (lE ρ cs)
 | .ps xs t=>.ps (lE ρ xs) t
 | .ls xs=>.ls xs
 | .pptr xs i o=>.pptr (lE ρ xs) i o
 | .bool b=>.bool b
 | .int k n=>.int k n
 | .str s=>.str s
 | .nilp=>.nilp
 | .nils=>.nils
 | .nilm=>.nilm
 | .nilf=>.nilf
 | .nili=>.nili
def lE(ρ:Nat→Nat):List AV→List AV
 |[]=>[]
 |x::r=>ren ρ x::lE ρ r
end
def j6(ρ:Nat→Nat):List AEnt→List AEnt
 |[]=>[]
 |e::r=>⟨ren ρ e.key,ren ρ e.val,e.born⟩::j6 ρ r
def j5(ρ:Nat→Nat):AObj→AObj
 | .row a b c xs=>.row a b c (lE ρ xs)
 | .map es c=>.map (j6 ρ es) c
 | .miter m c s=>.miter (ren ρ m) c s
 |o=>o
theorem fZ(ρ:Nat→Nat):∀(xs:List AV),lE ρ xs=xs.map (ren ρ)
 |[]=>rfl
 |x::r=>by simp[lE,fZ ρ r]
theorem qv(ρ:Nat→Nat):∀(xs:List AEnt),j6 ρ xs=xs.map fun e=>⟨ren ρ e.key,ren ρ e.val,e.born⟩
 |[]=>rfl
 |x::r=>by simp[j6,qv ρ r]
theorem rk{a b:Nat}(h:Nat.mx a b=0):a=0∧b=0:=by
 have:=qi.1 (tU h);omega
mutual
theorem iJ(ρ:Nat→Nat):∀(v:AV),v.top=0→ren ρ v=v
 | .ptr ..,h=>by simp[AV.top]at h
 | .slice ..,h=>by simp[AV.top]at h
 | .sl0 ..,h=>by simp[AV.top]at h
 | .map _,h=>by simp[AV.top]at h
 | .func fn a b,h=>by simp only[AV.top]at h;simp only[ren,eN ρ a (rk h).1,eN ρ b (rk h).2]
 | .iface t v,h=>by simp only[AV.top]at h;simp only[ren,iJ ρ v h]
 | .agg cs,h=>by simp only[AV.top]at h;simp only[ren,eN ρ cs h]
 | .tuple cs,h=>by simp only[AV.top]at h;simp only[ren,eN ρ cs h]
 | .ps xs t,h=>by simp only[AV.top]at h;simp only[ren,eN ρ xs h]
 | .ls xs,_=>rfl
 | .pptr xs i o,h=>by simp only[AV.top]at h;simp only[ren,eN ρ xs h]
 | .bool b,_=>rfl
 | .int k n,_=>rfl
 | .str s,_=>rfl
 | .nilp,_=>rfl
 | .nils,_=>rfl
 | .nilm,_=>rfl
 | .nilf,_=>rfl
 | .nili,_=>rfl
theorem eN(ρ:Nat→Nat):∀(vs:List AV),ax vs=0→lE ρ vs=vs
 |[],_=>rfl
 |x::r,h=>by
  simp only[ax]at h;simp only[lE,iJ ρ x (rk h).1,eN ρ r (rk h).2]
end
theorem fP(ρ:Nat→Nat)(v:AV):(ren ρ v).cells=v.cells.map (ren ρ):=by cases v<;>simp[ren,AV.cells,fZ]
theorem nT(ρ:Nat→Nat)(v:AV):cH (ren ρ v)=cH v:=by cases v<;>rfl
def jB(ρ:Nat→Nat)(n:Nat)(pl:Pl):Pl:=fun id=>if id<n then pl (ρ id)else none
theorem tD{ρ:Nat→Nat}{n id:Nat}{p:Place}(h:id<n)(hp:pl (ρ id)=some p):jB ρ n pl id=some p:=by grind[jB]
theorem VRel.ren{ρ:Nat→Nat}{n:Nat}{u v:AV}{x:Value}(h:VRel pl M u x)(hu:u=Ev.ren ρ v)(ht:v.top≤n):VRel (jB ρ n pl) M v x:=by
 have elem:∀{xs:List AV}{i:Nat}{z:AV},xs[i]?=some z→(xs.map (Ev.ren ρ))[i]?=some (Ev.ren ρ z):=by grind
 have cel:∀{z y:AV}{j:Nat},z.cells[j]?=some y→(Ev.ren ρ z).cells[j]?=some (Ev.ren ρ y):=by grind[fP]
 have tp:∀{xs:List AV}{i j:Nat}{z y:AV},ax xs≤n→xs[i]?=some z→z.cells[j]?=some y→y.top≤n:=by
  intro xs i j x y h1 h2 h3;exact kH (du.1 h1 x (bi h2)) (bi h3)
 have sc:∀{xs:List AV}{sz:Nat},(∀x,x∈xs.map (Ev.ren ρ)→x.cells.length=sz∧Sc x)→∀x,x∈xs→x.cells.length=sz∧Sc x:=by
  intro xs sz h x hx;obtain⟨h1,h2⟩:=h (Ev.ren ρ x) (List.mem_map_of_mem hx);rw[fP]at h1;refine⟨by simp_all,fun y hy=>?_⟩;have:=h2 (Ev.ren ρ y) (by grind[fP]);grind[nT]
 induction h generalizing v with
 |bool b=>cases v<;>simp[Ev.ren]at hu;subst hu;exact .bool _
 |int k n=>cases v<;>simp[Ev.ren]at hu;obtain⟨rfl,rfl⟩:=hu;exact .int _ _
 |str s=>cases v<;>simp[Ev.ren]at hu;subst hu;exact .str _
 |nilp=>cases v<;>simp[Ev.ren]at hu;exact .nilp
 |ptr hp he ha=>
  cases v<;>simp[Ev.ren]at hu
  obtain⟨rfl,rfl,rfl,rfl⟩:=hu;simp only[AV.top]at ht;exact .ptr (tD (by omega) hp) he ha
 |pptr hm hs hi hc ih=>
  cases v<;>simp[Ev.ren]at hu
  obtain⟨h1,rfl,rfl⟩:=hu;rw[fZ]at h1;subst h1;simp only[AV.top]at ht;refine .pptr ⟨hm.1,hm.2.1,by simp_all,hm.2.2.2⟩ (sc hs) (by simp_all) (fun i z j y k1 k2=>ih i _ j _ (elem k1) (cel k2) rfl (tp ht k1 k2))
 |nils=>cases v<;>simp[Ev.ren]at hu;exact .nils
 |slice hp he hl hk ha=>
  cases v<;>simp[Ev.ren]at hu
  obtain⟨rfl,rfl,rfl,rfl,rfl⟩:=hu;simp only[AV.top]at ht;exact .slice (tD (by omega) hp) he hl hk ha
 |sl0n _ ih=>
  cases v<;>simp[Ev.ren]at hu
  obtain⟨rfl,rfl,rfl,rfl⟩:=hu;exact .sl0n (ih (v:=.ls []) rfl (bH _))
 |sl0s _ ih=>
  cases v<;>simp[Ev.ren]at hu
  obtain⟨rfl,rfl,rfl,rfl⟩:=hu;exact .sl0s (ih (v:=.slice _ _ 0 _ _) rfl ht)
 |ps hl ht' hm hs hc ih=>
  cases v<;>simp[Ev.ren]at hu
  obtain⟨h1,rfl⟩:=hu;rw[fZ]at h1;subst h1;simp only[AV.top]at ht;have:=VRel.ps (pl:=jB ρ n pl) (by simpa using hl) (by simpa using ht') (by simp_all) (sc hs) (fun i z j y k1 k2=>ih i _ j _ (elem k1) (cel k2) rfl (tp ht k1 k2));simp_all
 |lsn=>
  cases v<;>simp[Ev.ren]at hu
  subst hu;exact .lsn
 |lsp h ht0 ih=>
  cases v<;>simp[Ev.ren]at hu
  subst hu;exact .lsp (ih (v:=.ps _ false) (by grind[Ev.ren,eN]) (by grind[AV.top])) ht0
 |nilm=>cases v<;>simp[Ev.ren]at hu;exact .nilm
 |map hp ha=>
  cases v<;>simp[Ev.ren]at hu
  subst hu;simp only[AV.top]at ht;exact .map (tD (by omega) hp) ha
 |func h1 h2 h3 h4 ih1 ih2=>
  cases v<;>simp[Ev.ren]at hu
  obtain⟨rfl,e1,e2⟩:=hu;rw[fZ]at e1 e2;subst e1;subst e2;simp only[AV.top,qi]at ht;exact .func (by simp_all) (by simp_all) (fun j y hj=>ih1 j _ (elem hj) rfl (du.1 ht.1 y (bi hj))) (fun j y hj=>ih2 j _ (elem hj) rfl (du.1 ht.2 y (bi hj)))
 |nilf=>cases v<;>simp[Ev.ren]at hu;exact .nilf
 |iface _ ih=>
  cases v<;>simp[Ev.ren]at hu
  obtain⟨rfl,e1⟩:=hu;simp only[AV.top]at ht;exact .iface (ih e1 ht)
 |nili=>cases v<;>simp[Ev.ren]at hu;exact .nili
 |agg h1 h2 _ ih=>
  cases v<;>simp[Ev.ren]at hu
  rw[fZ]at hu;subst hu;simp only[AV.top]at ht;refine .agg (by simp_all) (fun y hy=>?_) (fun j y hj=>ih j _ (elem hj) rfl (du.1 ht y (bi hj)));grind[List.mem_map_of_mem,nT]
 |tuple h1 _ ih=>
  cases v<;>simp[Ev.ren]at hu
  rw[fZ]at hu;subst hu;simp only[AV.top]at ht;exact .tuple (by simp_all) (fun j y hj=>ih j _ (elem hj) rfl (du.1 ht y (bi hj)))
theorem bu.ren{ρ:Nat→Nat}{n:Nat}{o:AObj}{p:Place}{x:Option Obj}(h:bu pl M p (j5 ρ o) x)(ht:o.top≤n):bu (jB ρ n pl) M p o x:=by
 match o,x with
 | .dead,_=>trivial
 | .row sz op ep xs,some (.cells c t fr)=>
  obtain⟨h1,h2,h3,h4,h5,h6,h7,h8⟩:=h;rw[fZ]at h3 h7 h8;simp only[b9]at h3 h7;simp only[AObj.top]at ht;refine⟨h1,h2,h3,h4,h5,h6,h7,⟨by simpa using h8.fit,fun y hy=>?_,fun i z j y k1 k2=>?_⟩⟩
  ·obtain⟨q1,q2⟩:=h8.elem (Ev.ren ρ y) (List.mem_map_of_mem hy);rw[fP]at q1;refine⟨by simp_all,fun u hu=>?_⟩;have:=q2 (Ev.ren ρ u) (by grind[fP]);grind[nT]
  ·exact(h8.cell i (Ev.ren ρ z) j (Ev.ren ρ y) (by simp_all) (by grind[fP])).ren rfl (kH (du.1 ht z (bi k1)) (bi k2))
 | .map es clock,some (.map entries clock')=>
  obtain⟨h1,h2,h3,h4⟩:=h;rw[qv]at h3 h4;simp only[AObj.top]at ht;refine⟨h1,h2,by simp_all,fun i e hi=>?_⟩;obtain⟨e',k1,k2,k3,k4⟩:=h4 i ⟨Ev.ren ρ e.key,Ev.ren ρ e.val,e.born⟩ (by simp_all);have:=pY.1 ht e (bi hi);exact⟨e',k1,k2.ren rfl this.1,k3.ren rfl this.2,k4⟩
 | .siter s pos,some (.stringIter s' pos')=>exact h
 | .miter m clock seen,some (.mapIter m' since seen' stepped)=>simp only[AObj.top]at ht;exact⟨h.1,h.2.1,h.2.2.1.ren rfl ht,h.2.2.2⟩
end
end Go.Ev
namespace Go.Ev
open Go
noncomputable def eW(h:AHeap):Nat→Nat→Option (List AObj)
 |0,_=>some []
 |k+1,i=>match h.get i with
  |some o=>match eW h k (i+1)with|some l=>some (o::l)|none=>none
  |none=>none
section
variable{P:Program}{G:eg}{b:Option Nat}{ops:Array Oper}{l:List Oper}{o:Oper}{s s':St}{h h':AHeap}{v:AV}{A A':Fr}{call:cX}{f:FuncId}{args:List AV}{c d:Code}
theorem dN:∀(k i:Nat)(os:List AObj),eW h k i=some os→os.length=k∧∀(j:Nat)(o:AObj),os[j]?=some o→h.get (i+j)=some o
 |0,i,os,e=>by simp[eW]at e;subst e;exact⟨rfl,fun j o h=>by simp at h⟩
 | k+1,i,os,e=>by
  simp only[eW]at e;cases hq:h.get i with
  |none=>rw[hq]at e;simp at e
  | some o'=>
   cases hr:eW h k (i+1)with
   |none=>rw[hq,hr]at e;simp at e
   |some r=>
    rw[hq,hr]at e;simp at e;subst e;obtain⟨h1,h2⟩:=dN k (i+1) r hr;refine⟨by simp[h1],fun j o hj=>?_⟩;cases j with
    |zero=>simp at hj;subst hj;simpa using hq
    |succ j=>rw[show i+(j+1)=i+1+j by omega];exact h2 j o (by simpa using hj)
end
end Go.Ev
namespace Go.Ev
open Go
abbrev VC:Ids:=⟨false,[],0,0⟩
abbrev rd(ids:List Nat):Rec:=⟨⟨false,ids,0,0⟩,VC⟩
abbrev wr(ids:List Nat)(n m:Nat):Rec:=⟨⟨false,ids,0,0⟩,⟨false,ids,n,m⟩⟩
abbrev cl(n:Nat):Rec:=⟨⟨true,[],n,n⟩,VC⟩
noncomputable abbrev dop(P:Program)(G:eg)(ops:Array Oper)(o:Oper):DOper:=⟨bG P G ops o,o.looksAt ops,da o.op,cS o.op,0⟩
section
variable{P:Program}{G:eg}{b:Option Nat}{ops:Array Oper}{l rest:List Oper}{o:Oper}{h h' h1:AHeap}{v:AV}{call:cX}{f:FuncId}{args:List AV}{k n t:Nat}{L:List (Nat×AV)}{rs:List Rec}{Φ:Fr→AHeap→Prop}
theorem sj.step{F F':Fr}{r:Rec}(hs:DSpec P G ops o (o.looksAt ops) F h v h1 r)(hcl:kR (eu (dO ops.toList 0 []) k) r rs k=true)(hp:iI F o.dst v=some F')(next:sj P G ops (k+1) rest F' h1 (r::rs) Φ):
  sj P G ops k (o::rest) F h rs Φ:=⟨v,h1,r,F',hs,hcl,hp,next⟩
theorem sj.done{F:Fr}(hn:Nat.ble h.n 1000000=true)(h0:Φ F h):sj P G ops k [] F h rs Φ:=⟨by rw[bK]at hn;simpa using hn,h0⟩
end
end Go.Ev
namespace Go.Ev
open Go
section
variable{P:Program}{G:eg}{b:Option Nat}{ops:Array Oper}{l:List Oper}{s:St}{call:cX}
end
end Go.Ev
namespace Go.Ev
open Go
def Le(u v:AV):Prop:=∀(pl:Pl)(M:dn)(x:Value),VRel pl M v x→VRel pl M u x
theorem Le.refl(v:AV):Le v v:=fun _ _ _ h=>h
theorem Le.trans{a b c:AV}(h:Le a b)(k:Le b c):Le a c:=fun pl M x hx=>h pl M x (k pl M x hx)
theorem Le.nils:Le (.ls []) .nils:=fun _ _ _ h=>by cases h;exact .lsn
theorem Le.ps(xs:List AV)(t:Bool)(h0:ax xs=0):Le (.ls xs) (.ps xs t):=fun _ _ _ h=>.lsp h.loose h0
theorem Le.loose(xs:List AV)(t:Bool):Le (.ps xs false) (.ps xs t):=fun _ _ _ h=>h.loose
inductive Les:List AV→List AV→Prop
 |nil:Les [] []
 |cons {u v:AV} {us vs:List AV} (h:Le u v) (k:Les us vs):Les (u::us) (v::vs)
theorem Les.refl:∀(vs:List AV),Les vs vs
 |[]=>.nil
 |v::r=>.cons (Le.refl v) (Les.refl r)
theorem Les.len{us vs:List AV}(h:Les us vs):us.length=vs.length:=by
 induction h with
 |nil=>rfl
 |cons _ _ ih=>simp_all
theorem Les.at_{us vs:List AV}(h:Les us vs):∀(j:Nat)(u:AV),us[j]?=some u→∃v,vs[j]?=some v∧Le u v:=by
 induction h with
 |nil=>simp_all
 |cons h k ih=>grind
theorem VRels.le{pl:Pl}{M:dn}{us vs:List AV}{xs:Array Value}(h:VRels pl M vs xs)(hl:Les us vs):VRels pl M us xs:=
 ⟨hl.len.trans h.len,fun j u hj=>by
  obtain⟨v,h1,h2⟩:=hl.at_ j u hj;exact h2 _ _ _ (h.at_ j v h1)⟩
theorem Le.agg{us vs:List AV}(h:Les us vs)(hs:∀u,u∈us→cH u=true):Le (.agg us) (.agg vs):=by
 intro pl M x hx;cases hx with
 |agg h1 h2 h3=>
  refine .agg (h.len.trans h1) hs fun j u hj=>?_
  obtain⟨v,k1,k2⟩:=h.at_ j u hj;exact k2 _ _ _ (h3 j v k1)
theorem Le.tuple{us vs:List AV}(h:Les us vs):Le (.tuple us) (.tuple vs):=by
 intro pl M x hx;cases hx with
 |tuple h1 h3=>
  refine .tuple (h.len.trans h1) fun j u hj=>?_
  obtain⟨v,k1,k2⟩:=h.at_ j u hj;exact k2 _ _ _ (h3 j v k1)
section
variable{P:Program}{G:eg}{b:Option Nat}{ops:Array Oper}{l:List Oper}{o:Oper}{s s':St}{h h':AHeap}{v:AV}{A A':Fr}{f:FuncId}{args args':List AV}{c:Code}{n t:Nat}{L:List (Nat×AV)}
theorem aL.onArgs{Ψ:AV→AHeap→Prop}(hl:Les args' args)(hc:aL P G f args' h Ψ):aL P G f args h Ψ:=fun pl M w vs hg hr hv=>hc pl M w vs hg hr (hv.le hl)
theorem aA.onArgs(hl:Les args' args)(hc:aA P G f args' v):aA P G f args v:=fun h=>(hc h).onArgs hl
theorem aL.less{Ψ Ψ':AV→AHeap→Prop}(hc:aL P G f args h Ψ)(hi:∀v h',Ψ v h'→∃u,Le u v∧Ψ' u h'):aL P G f args h Ψ':=by
 intro pl M w vs hg hr hv;have key:∀cv v h' w',Ψ v h'→iX pl M h w v h' cv w'→∃u,Ψ' u h'∧iX pl M h w u h' cv w':=by
  intro cv v h' w' hp ⟨pl',M',k1,k2⟩;obtain⟨u,e1,e2⟩:=hi v h' hp;exact⟨u,e2,pl',M',e1 _ _ _ k1,k2⟩
 rcases hc pl M w vs hg hr hv with⟨h1,h2⟩|⟨cv,w',v,h',h1,h2,h3⟩
 ·refine .inl ⟨h1,Calls.mono h2 fun e w' ⟨cv,v,h',k1,k2,k3⟩=>?_⟩;grind
 ·obtain⟨u,z1,z2⟩:=key cv v h' w' h2 h3;exact .inr ⟨cv,w',u,h',h1,z1,z2⟩
theorem aA.less{u:AV}(hc:aA P G f args v)(hl:Le u v):aA P G f args u:=fun h=>(hc h).less fun v1 h1 ⟨e1,e2⟩=>⟨u,by simp_all,rfl,e2⟩
end
end Go.Ev
namespace Go.Ev
open Go
abbrev aw(b:Bool):Bool:=Bool.not b
theorem bw(x:Int):al x x=true:=by cases x<;>exact pP _
def jj(x y:Int):Int:=match au x y with|true=> -1|false=>match au y x with|true=>1|false=>0
section
variable{P:Program}{G:eg}{b:Option Nat}{c:Code}{s:St}
end
end Go.Ev
namespace Go.Ev
open Go
theorem uX{b:Bool}(h:aw b=true):b=false:=by simp_all
theorem qf{b:Bool}(h:aw b=false):b=true:=by simp_all
theorem LX{α β:Type}(f:α→β):∀(xs:List α)(i:Nat),jy (xs.map f) i=(jy xs i).map f
 |[],_=>rfl
 |_::_,0=>rfl
 |_::r,i+1=>LX f r i
theorem oT{α:Type}:∀(xs:List α)(i:Nat),jy xs i=xs[i]?
 |[],i=>by simp[jy]
 |_::_,0=>rfl
 |_::r,i+1=>by simp[jy,oT r i]
theorem Lq(a b:Nat):au (.ofNat a) (.ofNat b)=Nat.blt a b:=rfl
theorem JC{a b:Nat}(h:a<b):Nat.blt a b=true:=qX h
theorem QX{a b:Nat}(h:Nat.blt a b=true):a<b:=vq h
theorem L7{a b:Nat}(h:¬a<b):Nat.blt a b=false:=by
 cases q:Nat.blt a b with
 |false=>rfl
 |true=>exact absurd (QX q) h
theorem WA{a b:Nat}(h:a<b):au (.ofNat a) (.ofNat b)=true:=JC h
theorem T5{a b:Nat}(h:b≤a):au (.ofNat a) (.ofNat b)=false:=by
 rw[Lq];cases q:Nat.blt a b with
 |false=>rfl
 |true=>exact absurd (QX q) (by omega)
theorem vO{a b:Int}:au a b=decide (a<b):=by
 cases a with
 |ofNat a=>cases b with
  |ofNat b=>grind[Lq,JC,L7]
  |negSucc b=>exact(decide_eq_false (fun h=>by grind)).symm
 | negSucc a=>cases b with
  |ofNat b=>exact(decide_eq_true (by grind)).symm
  |negSucc b=>
   show Nat.blt b a=_
   grind[JC,L7]
section
variable{P:Program}{G:eg}{b:Option Nat}{c d:Code}{s:St}{n:Nat}{ops:Array Oper}{l:List Oper}{o:Oper}{h:AHeap}{v:AV}{L:List (Nat×AV)}
theorem IZ{Φ:AExit→St→Prop}{x:Operand}{t:Bool}(h:t=true)(hx:(ct G x).run s.tmps=some (.bool t))(h1:aB P G b c s Φ):aB P G b (.cond x c d) s Φ:=aB.cond hx (fun _=>h1) (fun k=>by grind)
theorem IX{Φ:AExit→St→Prop}{x:Operand}{t:Bool}(h:t=false)(hx:(ct G x).run s.tmps=some (.bool t))(h1:aB P G b d s Φ):aB P G b (.cond x c d) s Φ:=aB.cond hx (fun k=>by grind) (fun _=>h1)
def J2(fs:List FuncId)(call:cX):cX:=fun f args h=>match io f fs with|true=>none|false=>call f args h
theorem yC{call:cX}(fs:List FuncId)(hc:cq P G call):cq P G (J2 fs call):=by
 intro f args h v h' e;unfold J2 at e;split at e
 ·grind
 ·exact hc f args h v h' e
end
end Go.Ev
namespace Go.Ev
open Go
noncomputable def bV(h:AHeap):Nat→Option (List AObj)
 |0=>some []
 |k+1=>match bV h k,h.get k with|some l,some o=>some (l++[o])|_,_=>none
section
variable{P:Program}{G:eg}{c:Code}{n:Nat}{L:List (Nat×AV)}{h0:AHeap}
end
end Go.Ev
namespace Go.Ev
open Go
def b8(G:eg)(b:Option Nat)(s s':St):Prop:=∀(N:Nat)(h0:AHeap)(pl0:Pl)(M0:dn)(w0:World)(a:Act)(w:World),Vf b h0 pl0→SNow G N h0 pl0 M0 w0 s a w→SNow G N h0 pl0 M0 w0 s' a w
noncomputable section
def frzP(h:AHeap)(k n:Nat)(v:AV):Option AV:=
 match v with
 | .ptr id ep i off=>
  match Nat.blt id n with
  |true=>some v
  | false=>match h.get id with
   | some (.row _ _ ep' xs)=>
    match Nat.beq ep ep'&&Nat.blt i xs.length with
    |true=>match sH (frz h k n) xs with
     |some ys=>some (.pptr ys i off)
     |none=>none
    |false=>none
   |_=>none
 |v=>frz h k n v
def RX(h:AHeap)(k n:Nat)(v:AV):Option AV:=
 match v with
 | .func fn a b=>match sH (frz h k n) a,sH (frzP h k n) b with
  |some a,some b=>some (.func fn a b)
  |_,_=>none
 |v=>frzP h k n v
def frzL(A:Fr)(h:AHeap)(n:Nat):List Nat→Option (List (Nat×AV))
 |[]=>some []
 | t::r=>match A.get t with
  | some v=>match RX h jG n v with
   |some u=>match frzL A h n r with
    |some L=>some ((t,u)::L)
    |none=>none
   |none=>none
  |none=>none
end
mutual
def iU(ids:List Nat):AV→Bool
 | .ptr id ..=>io id ids
 | .slice id ..=>io id ids
 | .sl0 id ..=>io id ids
 | .map id=>io id ids
 | .func _ a b=>kM ids a&&kM ids b
 | .iface _ v=>iU ids v
 | .agg cs=>kM ids cs
 | .tuple cs=>kM ids cs
 | .ps xs _=>kM ids xs
 | .pptr xs _ _=>kM ids xs
 |_=>true
def kM(ids:List Nat):List AV→Bool
 |[]=>true
 |x::r=>iU ids x&&kM ids r
end
def xP(ids:List Nat):List AEnt→Bool
 |[]=>true
 |e::r=>iU ids e.key&&iU ids e.val&&xP ids r
def tz(ids:List Nat):AObj→Bool
 | .row _ _ _ xs=>kM ids xs
 | .map es _=>xP ids es
 | .miter m _ _=>iU ids m
 |_=>true
def jC(id:Nat):List Nat→Nat→Nat
 |[],_=>0
 |x::r,i=>match Nat.beq x id with|true=>i|false=>jC id r (i+1)
def fH:List Nat→Nat→Nat
 |[],_=>0
 |x::r,i=>match i with|0=>x|k+1=>fH r k
noncomputable section
def NJ(A:Fr)(ids:List Nat):List Nat→Option (List (Nat×AV))
 |[]=>some []
 | t::r=>match A.get t with
  | some v=>match iU ids v with
   |true=>match NJ A ids r with
    |some L=>some ((t,ren (fun i=>jC i ids 0) v)::L)
    |none=>none
   |false=>none
  |none=>none
def zg:List Nat→Bool
 |[]=>true
 |x::r=>!io x r&&zg r
def Ai(ids:List Nat):Nat→Bool
 |0=>true
 |k+1=>Nat.beq (fH ids k) k&&Nat.blt k ids.length&&Ai ids k
end
section
variable{P:Program}{G:eg}{b:Option Nat}{ops:Array Oper}{l:List Oper}{o:Oper}{s s':St}{h h':AHeap}{v:AV}{A A':Fr}{f:FuncId}{args:List AV}{c:Code}{n t:Nat}{L:List (Nat×AV)}{pl pl':Pl}{M M':dn}{w w':World}
theorem b8.refl(s:St):b8 G b s s:=fun _ _ _ _ _ _ _ _ h=>h
theorem b8.trans{s1 s2 s3:St}(h:b8 G b s1 s2)(k:b8 G b s2 s3):b8 G b s1 s3:=fun N h0 pl0 M0 w0 a w hb hs=>k N h0 pl0 M0 w0 a w hb (h N h0 pl0 M0 w0 a w hb hs)
theorem b8.sub(hS:SubSt s' s):b8 G b s s':=fun _ _ _ _ _ _ _ _ hs=>hS.now hs
theorem aB.weak{Φ:AExit→St→Prop}(hW:b8 G b s s')(h:aB P G b c s' Φ):aB P G b c s Φ:=fun N h0 pl0 M0 w0 a w Q hb hs hQ=>h N h0 pl0 M0 w0 a w Q hb (hW N h0 pl0 M0 w0 a w hb hs) hQ
theorem cb.weak{Φ:St→Prop}(hW:b8 G b s s')(h:cb P G b ops l s' Φ):cb P G b ops l s Φ:=fun i N h0 pl0 M0 w0 a w Q hb hl hs hQ=>h i N h0 pl0 M0 w0 a w Q hb hl (hW N h0 pl0 M0 w0 a w hb hs) hQ
theorem b8.fr(hn:A'.n=A.n)(hF:∀t u,A'.get t=some u→∃v,A.get t=some v∧Le u v):b8 G b ⟨A,h⟩ ⟨A',h⟩:=by
 intro N h0 pl0 M0 w0 a w hb ⟨⟨pl,M,g1,g2,g3,g4,g5⟩,k1,k2⟩;refine⟨⟨pl,M,g1,g2,⟨by grind[cases FrRel],g3.defers,fun t u ht=>?_⟩,g4,g5⟩,hn.trans k1,k2⟩;obtain⟨v,e1,e2⟩:=hF t u ht;obtain⟨q1,q2⟩:=g3.at_ t v e1;exact⟨by simp_all,e2 _ _ _ q2⟩
theorem b8.put{u:AV}(hs:A.n≤60000)(hv:A.get t=some v)(hl:Le u v)(hp:iI A (some t) u=some A'):b8 G b ⟨A,h⟩ ⟨A',h⟩:=by
 have hp':A.put t u=some A':=hp;have hn:A'.n=A.n:=by
  unfold Fr.put at hp';grind
 refine b8.fr hn fun t' u' ht=>?_
 obtain⟨_,_,h3⟩:=Fr.get_put hs hp' ht;grind[Le.refl]
theorem Le.elem{xs:List AV}{i off:Nat}{x:AV}(hx:jy xs i=some x):Le (.pptr [x] 0 off) (.pptr xs i off):=by
 rw[oT]at hx;intro pl M y hy;cases hy with
 | pptr hm hs hi hc=>
  rename_i a sz c;have hle:(i+1)*sz≤xs.length*sz:=ee _ hi;have:=VRel.pptr (pl:=pl) (M:=M) (xs:=[x]) (i:=0) (off:=off) (a:=⟨a.block,a.off+i*sz,none⟩) (sz:=sz) (c:=c) ⟨rfl,hm.2.1,by
   grind,hm.2.2.2⟩ (fun z hz=>by
    grind) (by simp) (fun k z j y' hk hj=>by
    grind)
  simp_all
theorem Lu(hr:cF pl M h w){n:Nat}{Md:dn}(hmd:pH M Md)
  (hd:∀id p sz op ep xs c t fr,n≤id→pl id=some p→h.get id=some (.row sz op ep xs)→w.heap[p.blk]?=some (.cells c t fr)→Md p.blk=some c)
  (k:Nat)(v v':AV)(x:Value)(hv:VRel pl M v x)(e:frzP h k n v=some v'):VRel (c9 pl n) Md v' x:=by
 unfold frzP at e;split at e
 ·rename_i id ep i off;rw[dh]at e;by_cases hid:id<n
  ·simp[hid]at e;subst e;exact hv.agree (n:=n) (by grind[AV.top]) dE hmd
  ·simp only[hid,decide_false]at e;split at e
   ·rename_i sz op ep' xs hgo;split at e
    ·rename_i hck;simp only[aD,dh,bx,decide_eq_true_eq]at hck;obtain⟨rfl,hi⟩:=hck;split at e
     ·rename_i ys hys;cases e
      cases hv with
      | ptr hp he ha=>
       rename_i a p;have ho:=hr.obj id p _ hp hgo;cases hb:w.heap[p.blk]? with
       |none=>grind[bu]
       | some ob=>
        rw[hb]at ho;cases ob<;>simp only[bu]at ho
        rename_i c t fr;obtain⟨g1,g2,g3,g4,g5,g6,g7,g8⟩:=ho;have ha:=ha g1.symm;subst ha;obtain⟨m1,m2⟩:=fT hys;have cells:∀(i:Nat)(x y:AV),xs[i]?=some x→frz h k n x=some y→eL x=true:=by
         intro i x y h1 h2;have he:=(g8.elem x (bi h1)).2;cases x<;>first|rfl|skip
         exact absurd (he _ (by simp[AV.cells];rfl)) (by simp[cH])
        have hfit:=g8.fit;have:=VRel.pptr (pl:=c9 pl n) (M:=Md) (xs:=ys) (i:=i) (off:=off) (a:=⟨p.blk,0,none⟩) (sz:=p.sz) (c:=c)
         ⟨rfl,hd _ _ _ _ _ _ _ _ _ (by omega) hp hgo hb,by simp_all,by omega⟩ (fun y hy=>by
          obtain⟨j,hj⟩:=CV hy;obtain⟨x,k1,k2⟩:=m2 j y hj;have he:=g8.elem x (bi k1);grind[oV]) (by omega) (fun j y q u hj hu=>by
          obtain⟨x,k1,k2⟩:=m2 j y hj;have he:=g8.elem x (bi k1);grind[oV,lH,cases InMem])
        simp_all
     grind
    grind
   grind
 grind[lH]
theorem Un(hr:cF pl M h w){n:Nat}{Md:dn}(hmd:pH M Md)
  (hd:∀id p sz op ep xs c t fr,n≤id→pl id=some p→h.get id=some (.row sz op ep xs)→w.heap[p.blk]?=some (.cells c t fr)→Md p.blk=some c)
  (k:Nat)(v v':AV)(x:Value)(hv:VRel pl M v x)(e:RX h k n v=some v'):VRel (c9 pl n) Md v' x:=by
 unfold RX at e;split at e
 ·split at e
  ·rename_i fn a b a' b' ha hb;cases e
   cases hv with
   |func h1 h2 h3 h4=>
    obtain⟨m1,m2⟩:=fT ha;obtain⟨m3,m4⟩:=fT hb;refine .func (m1▸h1) (m3▸h2) (fun j y hj=>?_) (fun j y hj=>?_);all_goals grind[lH,Lu]
  grind
 grind[Lu]
theorem qu:∀{ts:List Nat}{L:List (Nat×AV)},frzL A h n ts=some L→∀t u,(t,u)∈L→∃v,A.get t=some v∧RX h jG n v=some u
 |[],L,e,t,u,hm=>by grind[frzL]
 | x::r,L,e,t,u,hm=>by
  simp only[frzL]at e;split at e
  ·rename_i v hv;split at e
   ·rename_i y hy;split at e
    ·rename_i L' hL;simp at e;subst e;rcases fw.1 hm with k|k
     ·simp_all
     ·exact qu hL t u k
    ·grind
   ·grind
  ·grind
def Plain(h:AHeap)(n:Nat)(v u:AV):Prop:=∀(pl:Pl)(M Md:dn)(w:World)(x:Value),cF pl M h w→pH M Md→
 (∀id p sz op ep xs c t fr,n≤id→pl id=some p→h.get id=some (.row sz op ep xs)→w.heap[p.blk]?=some (.cells c t fr)→Md p.blk=some c)→VRel pl M v x→VRel (c9 pl n) Md u x
theorem Plain.frz{h:AHeap}{n k:Nat}{v u:AV}(e:RX h k n v=some u):Plain h n v u:=fun _ _ _ _ x hr hmd hd hv=>Un hr hmd hd k v u x hv e
theorem Plain.slice{h:AHeap}{n id ep off len sz:Nat}{cap:Option Nat}{op:Bool}{xs ys:List AV}(hgo:h.get id=some (.row sz op ep xs))(hid:n≤id)(hy:(xs.drop off).take len=ys)(ht:ax ys=0):
  Plain h n (.slice id ep off len cap) (.ps ys (n8 cap (some len))):=by
 intro pl M Md w x hr hmd hd hv;cases hv with
 | slice hp hle hl hk ha=>
  rename_i cap' a p;have ho:=hr.obj id p _ hp hgo;cases hb:w.heap[p.blk]? with
  |none=>grind[bu]
  | some ob=>
   rw[hb]at ho;cases ob<;>simp only[bu]at ho
   rename_i c t fr;obtain⟨g1,g2,g3,g4,g5,g6,g7,g8⟩:=ho;obtain⟨q1,q2,q3,q4,q5⟩:=ha (by omega);have hlen:ys.length=len:=by grind
   have src:∀(i:Nat)(y:AV),ys[i]?=some y→xs[off+i]?=some y∧i<len:=by grind
   have hys0:ys≠[]→a=⟨p.blk,off*p.sz,none⟩:=by
    intro hne;rcases q1 with hc0|hc1
    all_goals simp_all
   have hfit:off*p.sz+ys.length*p.sz≤c.size:=by
    rw[←g4]
    calc off*p.sz+ys.length*p.sz=(off+ys.length)*p.sz:=by grind
     _≤(off+cap')*p.sz:=ee _ (by omega)
     _≤p.tot:=q2
   rw[←hlen];refine VRel.ps (sz:=p.sz) (c:=c) (by omega) (fun ht=>?_) (fun hne=>?_) (fun y hy=>?_) (fun i y j u hi hu=>?_)
   ·cases cap with
    |none=>grind[n8]
    |some cc=>grind[n8,aD]
   ·grind
   ·grind[cases InMem]
   ·have hne:ys≠[]:=fun h0=>by simp_all
    rw[hys0 hne];obtain⟨k1,k2⟩:=src i y hi;have hz:=g8.cell _ _ j u k1 hu;have htop:u.top≤n:=bR (kH (du.1 (tU ht) y (bi hi)) (bi hu)) (bH _);have:=hz.agree htop dE hmd;grind
theorem b8.frzP(hG:iF G){m k:Nat}{L:List (Nat×AV)}(hm:m≤k)(hk:k≤s.heap.n)(hc:fq s.heap k k=true)(e:∀t u,(t,u)∈L→∃v,s.tmps.get t=some v∧Plain s.heap k v u):b8 G (some m) s ⟨dT s.tmps.n L,s.heap.cut k⟩:=by
 intro N h0 pl0 M0 w0 a w hb ⟨⟨pl,M,g1,g2,g3,g4,g5⟩,k1,k2⟩;obtain⟨b1,b2⟩:=hb m rfl;have hlow:∀id p,pl0 id=some p→id<k:=fun id p hp=>FJ (b2 id p hp) hm
 refine⟨⟨c9 pl k,lj pl M w k,(g1.none hG).mono (nW.refl _) (fc k),g2.dropped hk (fun id o q1 q2=>gx k hc id o q1 q2),⟨g3.size,g3.defers,fun t u ht=>?_⟩,⟨?_,?_,?_,g4.size,g4.kept,?_,?_,?_,?_,g4.os,g4.tape,g4.out,g4.drawn⟩,by show h0.n≤k;omega⟩,k1,k2⟩
 ·obtain⟨v,q1,q2⟩:=e t u (uJ ht);obtain⟨q3,q4⟩:=g3.at_ t v q1;exact⟨q3,q2 _ _ _ _ _ g2 (fc k) (fun id p sz op ep xs c t fr z1 z2 _ z4=>oz g2 z1 z2 z4) q4⟩
 ·intro id p hp;obtain⟨p',q1,q2⟩:=g4.ext id p hp;exact⟨p',aM.2 ⟨hlow id p hp,q1⟩,q2⟩
 ·intro id hid hp;have:=g4.new id hid hp;cases hcp:c9 pl k id with
  |none=>rfl
  |some q=>rw[(aM.1 hcp).2]at this;omega
 ·exact fun b c hb=>fc k b c (g4.mem b c hb)
 ·exact fun id p' hp'=>g4.blks id p' (aM.1 hp').2
 ·intro id p hp hg;have:=g4.live id p hp hg;cases hcp:(s.heap.cut k).get id with
  |none=>rfl
  |some o=>grind[iY]
 ·exact fun id p hp hg=>aM.2 ⟨hlow id p hp,g4.stay id p hp hg⟩
 ·intro b c hb;rcases iC hb with q|⟨⟨id,p,q1,q2,q3⟩,_⟩
  ·exact g4.memNew b c q
  ·rcases g4.blks id p q2 with⟨p0,q4,_⟩|q4
   all_goals grind
theorem b8.frz(hG:iF G){m k:Nat}{ts:List Nat}(hm:m≤k)(hk:k≤s.heap.n)(hc:fq s.heap k k=true)(e:frzL s.tmps s.heap k ts=some L):b8 G (some m) s ⟨dT s.tmps.n L,s.heap.cut k⟩:=b8.frzP hG hm hk hc fun t u h=>by grind[qu,Plain.frz]
theorem PH{ids:List Nat}{id:Nat}(i:Nat)(h:io id ids=true):i≤jC id ids i∧fH ids (jC id ids i-i)=id∧jC id ids i-i<ids.length:=by
 induction ids generalizing i with
 |nil=>grind[io]
 | cons x r ih=>
  simp only[io,tq]at h;simp only[jC];cases hb:Nat.beq x id with
  |true=>simp_all[fH]
  |false=>
   rcases h with h|h
   ·grind
   ·obtain⟨k1,k2,k3⟩:=ih (i+1) h;simp only[];refine⟨by omega,?_,by grind⟩;rw[show jC id r (i+1)-i=(jC id r (i+1)-(i+1))+1 by omega];exact k2
theorem tI{ids:List Nat}{id:Nat}(h:io id ids=true):jC id ids 0<ids.length∧fH ids (jC id ids 0)=id:=by grind[PH]
mutual
theorem n4{ids:List Nat}:∀(v:AV),iU ids v=true→ren (fH ids) (ren (fun i=>jC i ids 0) v)=v∧(ren (fun i=>jC i ids 0) v).top≤ids.length
 | .ptr id ..,h=>by simp only[iU]at h;obtain⟨h1,h2⟩:=tI h;exact⟨by simp only[ren,h2],by simp only[ren,AV.top];omega⟩
 | .slice id ..,h=>by simp only[iU]at h;obtain⟨h1,h2⟩:=tI h;exact⟨by simp only[ren,h2],by simp only[ren,AV.top];omega⟩
 | .sl0 id ..,h=>by simp only[iU]at h;obtain⟨h1,h2⟩:=tI h;exact⟨by simp only[ren,h2],by simp only[ren,AV.top];omega⟩
 | .map id,h=>by simp only[iU]at h;obtain⟨h1,h2⟩:=tI h;exact⟨by simp only[ren,h2],by simp only[ren,AV.top];omega⟩
 | .func fn a b,h=>by
  simp only[iU,bx]at h;obtain⟨k1,k2⟩:=jA a h.1;obtain⟨q1,q2⟩:=jA b h.2;exact⟨by simp only[ren,k1,q1],by simp only[ren,AV.top];exact qi.2 ⟨k2,q2⟩⟩
 | .iface t v,h=>by simp only[iU]at h;obtain⟨k1,k2⟩:=n4 v h;exact⟨by simp only[ren,k1],by simpa only[ren,AV.top]using k2⟩
 | .agg cs,h=>by simp only[iU]at h;obtain⟨k1,k2⟩:=jA cs h;exact⟨by simp only[ren,k1],by simpa only[ren,AV.top]using k2⟩
 | .tuple cs,h=>by simp only[iU]at h;obtain⟨k1,k2⟩:=jA cs h;exact⟨by simp only[ren,k1],by simpa only[ren,AV.top]using k2⟩
 | .ps xs t,h=>by simp only[iU]at h;obtain⟨k1,k2⟩:=jA xs h;exact⟨by simp only[ren,k1],by simpa only[ren,AV.top]using k2⟩
 | .pptr xs i o,h=>by simp only[iU]at h;obtain⟨k1,k2⟩:=jA xs h;exact⟨by simp only[ren,k1],by simpa only[ren,AV.top]using k2⟩
 | .ls xs,_=>⟨rfl,bH _⟩
 | .bool b,_=>⟨rfl,bH _⟩
 | .int k n,_=>⟨rfl,bH _⟩
 | .str s,_=>⟨rfl,bH _⟩
 | .nilp,_=>⟨rfl,bH _⟩
 | .nils,_=>⟨rfl,bH _⟩
 | .nilm,_=>⟨rfl,bH _⟩
 | .nilf,_=>⟨rfl,bH _⟩
 | .nili,_=>⟨rfl,bH _⟩
theorem jA{ids:List Nat}:∀(vs:List AV),kM ids vs=true→lE (fH ids) (lE (fun i=>jC i ids 0) vs)=vs∧ax (lE (fun i=>jC i ids 0) vs)≤ids.length
 |[],_=>⟨rfl,bH _⟩
 |x::r,h=>by
  simp only[kM,bx]at h;obtain⟨k1,k2⟩:=n4 x h.1;obtain⟨q1,q2⟩:=jA r h.2;exact⟨by simp only[lE,k1,q1],by simp only[lE,ax];exact qi.2 ⟨k2,q2⟩⟩
end
theorem Cm{ids:List Nat}:∀(es:List AEnt),xP ids es=true→j6 (fH ids) (j6 (fun i=>jC i ids 0) es)=es∧fY (j6 (fun i=>jC i ids 0) es)≤ids.length
 |[],_=>⟨rfl,bH _⟩
 |e::r,h=>by
  simp only[xP,bx]at h;obtain⟨k1,k2⟩:=n4 e.key h.1.1;obtain⟨z1,z2⟩:=n4 e.val h.1.2;obtain⟨q1,q2⟩:=Cm r h.2;exact⟨by simp_all[j6],by simp only[j6,fY];exact qi.2 ⟨qi.2 ⟨k2,z2⟩,q2⟩⟩
theorem NW{ids:List Nat}(o:AObj)(h:tz ids o=true):j5 (fH ids) (j5 (fun i=>jC i ids 0) o)=o∧(j5 (fun i=>jC i ids 0) o).top≤ids.length:=by
 cases o with
 |row a b c xs=>grind[tz,jA,j5,AObj.top]
 |map es c=>grind[tz,Cm,j5,AObj.top]
 |dead=>exact⟨rfl,bH _⟩
 |siter s p=>exact⟨rfl,bH _⟩
 |miter m c s=>grind[tz,n4,j5,AObj.top]
theorem FO{ids:List Nat}:∀{ts:List Nat}{L:List (Nat×AV)},NJ A ids ts=some L→∀t u,(t,u)∈L→∃v,A.get t=some v∧iU ids v=true∧u=ren (fun i=>jC i ids 0) v
 |[],L,e,t,u,hm=>by grind[NJ]
 | x::r,L,e,t,u,hm=>by
  simp only[NJ]at e;split at e
  ·rename_i v hv;split at e
   ·rename_i hw;split at e
    ·rename_i L' hL;simp at e;subst e;rcases fw.1 hm with k|k
     ·simp_all
     ·exact FO hL t u k
    ·grind
   ·grind
  ·grind
theorem GD:∀{ids:List Nat}{i:Nat},i<ids.length→ids[i]?=some (fH ids i)
 |x::r,0,_=>rfl
 |x::r,i+1,h=>by simpa[fH]using GD (ids:=r) (i:=i) (by simp_all)
theorem rq:∀{ids:List Nat},zg ids=true→∀i j,i<ids.length→j<ids.length→fH ids i=fH ids j→i=j
 | x::r,h,i,j,hi,hj,e=>by
  simp only[zg,bx,Bool.not_eq_true']at h;have hx:∀k,k<r.length→fH r k≠x:=by
   intro k hk e;have:=bi (GD hk);rw[e]at this;have:=oJ.2 this;simp_all
  cases i with
  |zero=>cases j with
   |zero=>rfl
   |succ j=>exact absurd e.symm (hx j (by simp_all))
  |succ i=>cases j with
   |zero=>exact absurd e (hx i (by simp_all))
   |succ j=>have:=rq h.2 i j (by simp_all) (by simp_all) e;omega
theorem C9{ids:List Nat}:∀{m:Nat},Ai ids m=true→∀i,i<m→fH ids i=i∧i<ids.length
 |0,_,i,hi=>by omega
 |k+1,h,i,hi=>by
  simp only[Ai,bx,aD,dh,decide_eq_true_eq]at h;by_cases e:i=k
  ·simp_all
  ·exact C9 h.2 i (by omega)
theorem On(hG:iF G){m:Nat}{ids ts:List Nat}{os:List AObj}(h1:zg ids=true)(h2:Ai ids m=true)(e1:NJ s.tmps ids ts=some L)(o1:os.length=ids.length)
  (o2:∀(j:Nat)(o':AObj),os[j]?=some o'→∃o,s.heap.get (fH ids j)=some o∧j5 (fH ids) o'=o∧o'.top≤ids.length):
  b8 G (some m) s ⟨dT s.tmps.n L,ab os⟩:=by
 intro N h0 pl0 M0 w0 a w hb ⟨⟨pl,M,g1,g2,g3,g4,g5⟩,k1,k2⟩;obtain⟨b1,b2⟩:=hb m rfl;have hm:∀i,i<m→fH ids i=i∧i<ids.length:=C9 h2;have hlen:(ab os).n=ids.length:=o1;have some_:∀{id p},jB (fH ids) ids.length pl id=some p→id<ids.length∧pl (fH ids id)=some p:=by grind[jB]
 have low:∀{id p},pl0 id=some p→∀{q},pl id=some q→jB (fH ids) ids.length pl id=some q:=by grind[jB]
 have blk:∀{id p'},jB (fH ids) ids.length pl id=some p'→(∃p,pl0 id=some p∧p.blk=p'.blk)∨w0.heap.size≤p'.blk:=by
  intro id p' hp;obtain⟨q1,q2⟩:=some_ hp;rcases g4.blks _ p' q2 with⟨p0,y1,y2⟩|y
  all_goals grind[rq]
 refine⟨⟨jB (fH ids) ids.length pl,M,g1.none hG,⟨fun id p hp=>by simp_all,fun id p o hp hg=>?_,fun id p hp=>g2.blk _ p (some_ hp).2,fun id id' p p' q1 q2 e=>rq h1 id id' (some_ q1).1 (some_ q2).1 (g2.inj _ _ p p' (some_ q1).2 (some_ q2).2 e),g2.imm,fun id p hp=>g2.sep _ p (some_ hp).2⟩,
  ⟨g3.size,g3.defers,fun t u ht=>?_⟩,⟨fun id p hp=>?_,fun id hid hp=>?_,g4.mem,g4.size,g4.kept,fun id p hp=>blk hp,fun id p hp hg=>?_,fun id p hp hg=>low hp (g4.stay id p hp hg),g4.memNew,g4.os,g4.tape,g4.out,g4.drawn⟩,?_⟩,k1,k2⟩
 ·obtain⟨q1,q2⟩:=some_ hp;obtain⟨o',y1,z1,z2⟩:=o2 id o (na hg);exact bu.ren (ρ:=fH ids) (by rw[z1];exact g2.obj _ p _ q2 y1) z2
 ·obtain⟨v,q1,q2,q3⟩:=FO e1 t u (uJ ht);subst q3;obtain⟨z1,z2⟩:=n4 v q2;obtain⟨q3,q4⟩:=g3.at_ t v q1;exact⟨q3,q4.ren z1.symm z2⟩
 ·obtain⟨p',q1,q2⟩:=g4.ext id p hp;simp_all
 ·have hid':id<m:=by omega
  have:=g4.new id hid hp;cases hr:jB (fH ids) ids.length pl id with
  |none=>rfl
  |some q=>grind
 ·have hk:=g4.live id p hp hg;cases hr:(ab os).get id with
  |none=>rfl
  |some o=>
   obtain⟨o',y1,_⟩:=o2 id o (na hr);grind
 grind
theorem sX(ρ:Nat→Nat):∀(es:List AEnt),fY es=0→j6 ρ es=es
 |[],_=>rfl
 |e::r,h=>by
  simp only[fY]at h;have h1:=rk h;have h2:=rk h1.1;simp_all[j6,iJ,sX]
theorem IA(ρ:Nat→Nat)(o:AObj)(h:o.top=0):j5 ρ o=o:=by
 cases o with
 |row a b c xs=>grind[AObj.top,j5,eN]
 |map es c=>grind[AObj.top,j5,sX]
 |dead=>rfl
 |siter s p=>rfl
 |miter m c s=>grind[AObj.top,j5,iJ]
theorem Oo(hG:iF G){m k:Nat}{ts:List Nat}{os:List AObj}{t id ep off len sz:Nat}{cap:Option Nat}{op:Bool}{xs ys:List AV}(hm:m≤k)(hk:k≤s.heap.n)(hc:fq s.heap k k=true)(e:Ev.frzL s.tmps s.heap k ts=some L)(eo:eW s.heap k 0=some os)
  (et:s.tmps.get t=some (.slice id ep off len cap))(hid:k≤id)(hg:s.heap.get id=some (.row sz op ep xs))(hy:(xs.drop off).take len=ys)(ht:ax ys=0):
  b8 G (some m) s ⟨dT s.tmps.n ((t,.ps ys (n8 cap (some len)))::L),ab os⟩:=by
 refine b8.trans (b8.frzP (L:=(t,.ps ys (n8 cap (some len)))::L) hG hm hk hc fun t' u h=>?_) (b8.sub ⟨rfl,fun _ _ h=>h,?_,fun id o hh=>?_⟩)
 ·grind[Plain.slice,qu,Plain.frz]
 ·obtain⟨k1,_⟩:=dN _ _ _ eo;show k≤(ab os).n
  grind[ab]
 ·obtain⟨k1,k2⟩:=dN _ _ _ eo;have h1:=na hh;have h2:=k2 id o h1;have hlt:id<k:=by grind
  rw[eE,AHeap.get_some]at h2;exact AHeap.get_some.2 ⟨hlt,h2.2.1,h2.2.2⟩
theorem b8.frzL(hG:iF G){m k:Nat}{ts:List Nat}{os:List AObj}(hm:m≤k)(hk:k≤s.heap.n)(hc:fq s.heap k k=true)(e:Ev.frzL s.tmps s.heap k ts=some L)(eo:eW s.heap k 0=some os):
  b8 G (some m) s ⟨dT s.tmps.n L,ab os⟩:=by
 refine b8.trans (b8.frz hG hm hk hc e) (b8.sub ⟨rfl,fun _ _ h=>h,?_,fun id o hh=>?_⟩)
 ·obtain⟨k1,_⟩:=dN _ _ _ eo;show k≤(ab os).n
  grind[ab]
 ·obtain⟨k1,k2⟩:=dN _ _ _ eo;have h1:=na hh;have h2:=k2 id o h1;have hlt:id<k:=by grind
  rw[eE,AHeap.get_some]at h2;exact AHeap.get_some.2 ⟨hlt,h2.2.1,h2.2.2⟩
theorem b8.psh{b:Option Nat}{o:AObj}:b8 G b s ⟨s.tmps,s.heap.push o⟩:=by
 intro N h0 pl0 M0 w0 a w hb ⟨⟨pl,M,g1,g2,g3,g4,g5⟩,k1,k2⟩;refine⟨⟨pl,M,g1,⟨fun id p hp=>Nat.lt_succ_of_lt (g2.dom id p hp),fun id p o' hp hg=>?_,g2.blk,g2.inj,g2.imm,g2.sep⟩,g3,⟨g4.ext,g4.new,g4.mem,g4.size,g4.kept,g4.blks,fun id p hp hg=>?_,g4.stay,g4.memNew,g4.os,g4.tape,g4.out,g4.drawn⟩,Nat.le_succ_of_le g5⟩,k1,k2⟩
 ·rcases dX hg with⟨rfl,_⟩|⟨_,h2⟩
  ·exact absurd (g2.dom _ p hp) (wv _)
  ·exact g2.obj id p o' hp h2
 ·have:=g4.live id p hp hg;cases hh:(s.heap.push o).get id with
  |none=>rfl
  |some o'=>
   rcases dX hh with⟨rfl,_⟩|⟨_,h2⟩
   ·obtain⟨p',e1,_⟩:=g4.ext _ p hp;exact absurd (g2.dom _ p' e1) (wv _)
   simp_all
theorem Le.sl0{id ep len:Nat}{cap:Option Nat}:Le (.sl0 id ep len cap) (.slice id ep 0 len cap):=fun _ _ _ h=>.sl0s h
theorem E3{id ep:Nat}{cap:Option Nat}:Le (.sl0 id ep 0 cap) (.ls []):=fun _ _ _ h=>.sl0n h
theorem Le.sl0n{id ep:Nat}{cap:Option Nat}:Le (.sl0 id ep 0 cap) .nils:=Le.trans E3 Le.nils
theorem b8.val{b:Option Nat}{t:Nat}{v u:AV}{A':Fr}(hs:s.tmps.n≤60000)(hv:s.tmps.get t=some v)(hl:∀(pl:Pl)(M:dn)(x:Value),VRel pl M v x→VRel pl M u x)(hp:iI s.tmps (some t) u=some A'):b8 G b s ⟨A',s.heap⟩:=b8.put (A:=s.tmps) (h:=s.heap) hs hv hl hp
theorem Plain.sl0{h:AHeap}{n id ep len sz:Nat}{cap:Option Nat}{op:Bool}{xs ys:List AV}(hgo:h.get id=some (.row sz op ep xs))(hid:n≤id)(hy:(xs.drop 0).take len=ys)(ht:ax ys=0):
  Plain h n (.sl0 id ep len cap) (.ls ys):=by
 intro pl M Md w x hr hmd hd hv;cases hv with
 |sl0s hv=>exact .lsp (Plain.slice hgo hid hy ht pl M Md w x hr hmd hd hv).loose ht
 |sl0n hv=>
  rw[List.take_zero]at hy;subst hy;exact hv.agree (n:=n) (bH _) dE hmd
noncomputable def CT(A:Fr):List Nat→Option (List (Nat×AV))
 |[]=>some []
 |t::r=>match A.get t,CT A r with
  |some v,some L=>some ((t,v)::L)
  |_,_=>none
noncomputable def Gk(A:Fr)(k:Nat):List Nat→Prop
 |[]=>True
 |t::r=>(match A.get t with|some v=>v.top≤k|none=>False)∧Gk A k r
theorem CS{A:Fr}{k:Nat}:∀{ts:List Nat}{L:List (Nat×AV)},CT A ts=some L→Gk A k ts→∀t u,(t,u)∈L→A.get t=some u∧u.top≤k
 |[],L,e,_,t,u,h=>by grind[CT]
 | x::r,L,e,hl,t,u,h=>by
  simp only[CT]at e;simp only[Gk]at hl;split at e
  ·rename_i v L' hv hL;cases e
   rw[hv]at hl;rcases fw.1 h with h|h
   ·simp_all
   ·exact CS hL hl.2 t u h
  grind
theorem b8.frl(hG:iF G){m k:Nat}{ts ls:List Nat}{K:List (Nat×AV)}{os:List AObj}(hm:m≤k)(hk:k≤s.heap.n)(hc:fq s.heap k k=true)(e:Ev.frzL s.tmps s.heap k ts=some L)(eK:CT s.tmps ls=some K)(hl:Gk s.tmps k ls)(eo:eW s.heap k 0=some os):
  b8 G (some m) s ⟨dT s.tmps.n (K++L),ab os⟩:=by
 refine b8.trans (b8.frzP (L:=K++L) hG hm hk hc fun t' u h=>?_) (b8.sub ⟨rfl,fun _ _ h=>h,?_,fun id o hh=>?_⟩)
 ·rcases iR.1 h with h|h
  ·obtain⟨q1,q2⟩:=CS eK hl t' u h;exact⟨u,q1,fun pl M Md w x hr hmd _ hv=>hv.agree q2 dE hmd⟩
  grind[qu,Plain.frz]
 ·obtain⟨k1,_⟩:=dN _ _ _ eo;show k≤(ab os).n
  grind[ab]
 ·obtain⟨k1,k2⟩:=dN _ _ _ eo;have h1:=na hh;have h2:=k2 id o h1;have hlt:id<k:=by grind
  rw[eE,AHeap.get_some]at h2;exact AHeap.get_some.2 ⟨hlt,h2.2.1,h2.2.2⟩
theorem JM{u:AV}{Φ:St→Prop}(hg:ed s.tmps (ez ops o)=some true)(e:(fX P G o.op).run s.tmps s.heap=some (.val v h'))(hl:Le u v)(hp:iI s.tmps o.dst u=some A')(h:cb P G b ops l ⟨A',h'⟩ Φ):cb P G b ops (o::l) s Φ:=by
 intro i N h0 pl0 M0 w0 a w Q hb hl' hs hQ;have ho:ops[i]?=some o:=by simpa using hl' 0
 obtain⟨pl,M,g1,g2,g3,g4,g5⟩:=hs.ex;simp only[cP,CK,wpOps,ho];rw[fy g3 hg];simp only[if_true];left;obtain⟨dst,op,ty,pos,after,guard⟩:=o;obtain⟨pl',M',cv,w',nx,q1,q2,q3,q4,q5,q6⟩:=zh (P:=P) (G:=G) op pl M s.tmps s.heap v h' a w dst ty pos after guard g1 g2 g3 e;obtain⟨p1,p2⟩:=nw (g3.mono q5.ext q5.mem) (hl _ _ _ q3) (by rw[hs.n];exact hs.small) hp;have key:SNow G N h0 pl0 M0 w0 ⟨A',h'⟩ (a.put dst cv) w':=⟨⟨pl',M',g1.mono q5.ext q5.mem,q4,p1,g4.trans q5 g5,bR g5 q6⟩,by rw[←hs.n];omega,hs.small⟩
 have nxt:=h (i+1) N h0 pl0 M0 w0 _ w' Q hb (fun j=>by have:=hl' (j+1);grind) key hQ;unfold Oper.wp;rw[q1];rcases q2 with rfl|⟨rfl,rfl⟩
 ·exact nxt
 ·exact nxt
theorem DSpec.effS{F:Fr}{h1:AHeap}(hg:ed ⟨F.n,bM F (o.looksAt ops) .nil⟩ (ez ops o)=some true)(e:(fX P G o.op).run ⟨F.n,bM F (o.looksAt ops) .nil⟩ h=some (.call f args))
  (ht:ig F h.n (o.looksAt ops)=true)(ho:∀id o',h.get id=some o'→o'.top≤h.n)(hle:h.n≤h1.n)(hsame:∀id,id<h.n→h1.get id=h.get id)(hf:aL P G f args h (fun v1 h2=>v1=v∧h2=h1)):
  DSpec P G ops o (o.looksAt ops) F h v h1 ⟨⟨true,[],h.n,h.n⟩,⟨false,[],h.n,h1.n⟩⟩:=by
 refine⟨hle,fun id o' hno hg1=>?_,fun id k1 k2=>.inr (.inr ⟨k1,k2⟩),?_⟩
 ·have hlt:=(AHeap.get_some.1 hg1).1;rcases fe id h.n with k|k
  ·simp_all
  ·exact absurd (.inr (.inr ⟨k,hlt⟩)) hno
 ·intro nk n0 g pl M a w K Q hn0 hnk hbig hr hvis hU hG hs hdf hF hK;have hf0:FrRel pl M ⟨F.n,bM F (o.looksAt ops) .nil⟩ a:=gM hs hdf hF;rw[fy hf0 hg];simp only[if_true];left;have hvg:∀id o,h.get id=some o→g id=some o:=fun id o' hh=>hvis id o' (.inl ⟨rfl,(AHeap.get_some.1 hh).1⟩) hh
  have hfr:=qH (M:=M) hs hdf ht hF;let W:Nat→Prop:=fun id=>h.n≤id∧id<h1.n
  refine wC (W:=W) hr (ar _) hvg ho hfr hG e hf (.inr hnk) hU (fun id k1 k2 k3=>hsame id k1) (fun id k1 k2=>?_) (fun id k1=>k1.2) (fun id k1 k2=>⟨k1,k2⟩) ?_
  ·omega
  ·intro cv w' pl' M' r1 r2 r3 r4 r5;refine hK cv w' pl' M' _ r1 (r2.weaken hn0) r3 r4 (fun id hp hh=>?_) (fun id hno=>gI fun hW=>?_) (fun id o' hyes hg1=>?_)
   ·rcases hh with hh|hh
    ·exact r2.new id hh hp
    simp_all
   ·exact hno (.inr (.inr hW))
   ·have hW:W id:=by
     rcases hyes with⟨k1,k2⟩|k|k
     all_goals grind
    grind[my]
theorem DSpec.eff{F:Fr}{h1:AHeap}(hg:ed ⟨F.n,bM F (o.looksAt ops) .nil⟩ (ez ops o)=some true)(e:(fX P G o.op).run ⟨F.n,bM F (o.looksAt ops) .nil⟩ h=some (.call f args))
  (ht:ig F h.n (o.looksAt ops)=true)(ho:∀id o',h.get id=some o'→o'.top≤h.n)(hle:h.n≤h1.n)(hfew:∀id,id<h.n→h.get id=none→h1.get id=none)(hf:aL P G f args h (fun v1 h2=>v1=v∧h2=h1)):
  DSpec P G ops o (o.looksAt ops) F h v h1 ⟨⟨true,[],h.n,h.n⟩,⟨true,[],h.n,h1.n⟩⟩:=by
 refine⟨hle,fun id o' hno hg1=>?_,fun id k1 k2=>.inr (.inr ⟨k1,k2⟩),?_⟩
 ·have hlt:=(AHeap.get_some.1 hg1).1;rcases fe id h.n with k|k
  ·exact absurd (.inl ⟨rfl,k⟩) hno
  ·exact absurd (.inr (.inr ⟨k,hlt⟩)) hno
 ·intro nk n0 g pl M a w K Q hn0 hnk hbig hr hvis hU hG hs hdf hF hK;have hf0:FrRel pl M ⟨F.n,bM F (o.looksAt ops) .nil⟩ a:=gM hs hdf hF;rw[fy hf0 hg];simp only[if_true];left;have hvg:∀id o,h.get id=some o→g id=some o:=fun id o' hh=>hvis id o' (.inl ⟨rfl,(AHeap.get_some.1 hh).1⟩) hh
  have hfr:=qH (M:=M) hs hdf ht hF;let W:Nat→Prop:=fun id=>(id<h.n∧h.get id≠none)∨(h.n≤id∧id<h1.n)
  refine wC (W:=W) hr (ar _) hvg ho hfr hG e hf (.inr hnk) hU (fun id k1 k2 k3=>absurd (.inl ⟨k1,k3⟩) k2) (fun id k1 k2=>?_) (fun id k1=>?_) (fun id k1 k2=>.inr ⟨k1,k2⟩) ?_
  ·grind
  ·omega
  ·intro cv w' pl' M' r1 r2 r3 r4 r5;refine hK cv w' pl' M' _ r1 (r2.weaken hn0) r3 r4 (fun id hp hh=>?_) (fun id hno=>gI fun hW=>?_) (fun id o' hyes hg1=>?_)
   ·rcases hh with hh|hh
    ·exact r2.new id hh hp
    simp_all
   ·rcases hW with⟨k1,k2⟩|k
    ·exact hno (.inl ⟨rfl,k1⟩)
    ·exact hno (.inr (.inr k))
   ·have hW:W id:=by
     rcases hyes with⟨k1,k2⟩|k|k
     all_goals grind
    grind[my]
theorem cb.skip{Φ:St→Prop}(hg:ed s.tmps (ez ops o)=some false)(hp:iI s.tmps o.dst gU=some A')(h:cb P G b ops l ⟨A',s.heap⟩ Φ):cb P G b ops (o::l) s Φ:=by
 refine cb.one (call:=zp) CI ?_ h;grind[yR,bG,fin]
end
end Go.Ev
