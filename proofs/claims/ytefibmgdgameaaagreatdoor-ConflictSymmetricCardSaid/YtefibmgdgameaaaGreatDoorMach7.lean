/- An abstract machine for runs of the program, proved sound against the model: part 7. No conditions. -/
import Derived.Test.YtefibmgdgameaaaGreatDoorMach6
import Derived.Laws.Externs
import Derived.Lib.Join
import Derived.Lib.Repeat
namespace Go.Ev
open Go
section
variable {P : Program} {G : eg} {call : ca} {m : Nat} {c : Code} {d : D} {s s' : St} {ops : Array Oper}
theorem rY (hm:P.follows .mixedOrders=true) (hG:gH G) (hc:cw P G call) (d:D) (e:(WP P G call m c).run d s (fun e _ s=>e = .normal∧s=s')=(AExit.normal = .normal∧s'=s')):am P G (some m) c s (fun e s=>e = .normal∧s=s'):=Ut hm hG hc c d s _ _ (e ▸ ⟨rfl,rfl⟩) fun _ _ _ _ h=>h
theorem PI (hG:gH G) (hc:cw P G call) (d:D) {W:Prop} (p:W) (e:Us P G call m ops ops.toList d s (fun _ s=>s=s')=W):b6 P G (some m) ops ops.toList s (fun s=>s=s'):=fU hG hc _ d s _ (e ▸ p) fun _ _ _ h=>h
theorem Kj (hG:gH G) (hc:cw P G call) (d:D) (e:Us P G call m ops ops.toList d s (fun _ s=>s=s')=(s'=s')):b6 P G (some m) ops ops.toList s (fun s=>s=s'):=PI hG hc d (rfl:s'=s') e
theorem DS (hG:gH G) (hn:Nat.ble s.tmps.n 60000=true) (d:D) {W:Prop} (p:W) (e:pre m d s (fun _ s1=>s1=s')=W):cX G (some m) s s':=o9 hG (ng hn) (e ▸ p:pre m d s (fun _ s1=>s1=s')) fun _ s1 _ hW h=>h ▸ hW
theorem ma (hG:gH G) (hc:cw P G call) {id:Nat} {Ψ:St→Prop} (d:D) {W:Prop} (p:W) (e:Us P G call m ops ops.toList d s (fun _ s=>Ψ s)=W):am P G (some m) (.region id ops false) s (fun e s=>e = .normal∧Ψ s):=am.region (fU hG hc _ d s _ (e ▸ p) fun _ _ _ h=>⟨rfl,h⟩)
end
section
variable {P : Program} {G : eg} {ops : Array Oper} {o : Oper} {l : List Oper} {s : St} {b : Option Nat}
theorem qW {Y:Type} {I:Y→Prop} {r:Y→AV} {H:Y→AHeap} {Φ:St→Prop} (hg:eV s.tmps (dP ops o)=some true)
  (hO : ∀ (pl:Pl) (M:dz) (a:Act) (w:World),nb G pl M→ct pl M s.heap w→FrRel pl M s.tmps a→∃ y pl' M' cv w',I y∧(execOp a.eval o).run P w = .ok (.value cv) w'∧VRel pl' M' (r y) cv∧ct pl' M' (H y) w'∧cW s.heap pl M w (H y) pl' M' w'∧s.heap.n≤(H y).n)
  (h : ∀ y,I y→∃ A',gY s.tmps o.dst (r y)=some A'∧b6 P G b ops l ⟨A',H y⟩ Φ):b6 P G b ops (o::l) s Φ:=by
 intro i N h0' pl0 M0 w0 a w Q hb hl' hs hQ;have ho:ops[i]? = some o:=by simpa using hl' 0
 obtain ⟨pl,M,g1,g2,g3,g4,g5⟩:=hs.ex;simp only [fg,wP,wpOps,ho];rw [eH g3 hg];simp only [if_true];left;obtain ⟨y,pl',M',cv,w',i1,i2,i3,i4,i5,i6⟩:=hO pl M a w g1 g2 g3;obtain ⟨A',e1,e2⟩:=h y i1;obtain ⟨p1,p2⟩:=iG (g3.mono i5.ext i5.mem) i3 (by rw [hs.n];exact hs.small) e1;have nxt:=e2 (i+1) N h0' pl0 M0 w0 (a.put o.dst cv) w' Q hb (fun j=>by have:=hl' (j+1);grind)
  ⟨⟨pl',M',g1.mono i5.ext i5.mem,i4,p1,g4.trans i5 g5,bL g5 i6⟩,by rw [← hs.n];omega,hs.small⟩ hQ
 unfold Oper.wp;rw [i2];exact nxt
theorem tQ {t tx e:TypeId} {i:TypeInfo} {sz bt:Nat} (hsz:i.size=sz) (hbt:i.bytes=bt) {z z0:AV} {sO xO:Operand} {dst:Option Tmp} {ty:TypeId} {pos:String} {after:Array Edge} {guard:Option (Nat × Bool)} {xs:List AV}
  (ht:P.underlying t=some (.slice e)) (hk : ∃ e',P.underlying tx=some (.slice e')) (hi:P.info? e=some i) (hz:iO P e=some z0) (hzl:Le z z0)
  (hs:(cG G sO).run s.tmps=some (.ps [] true)) (hx:(cG G xO).run s.tmps=some (.ls xs)) (hne:xs≠ []) (hfit:dh sz xs=true) (hzf:dh sz [z]=true) (hsm:small xs.length bt=true) (hs0:0<sz)
  (pl:Pl) (M:dz) (a:Act) (w:World) (g1:nb G pl M) (g2:ct pl M s.heap w) (g3:FrRel pl M s.tmps a) :
  ∃ (k:Nat) (pl':Pl) (M':dz) (cv:Value) (w':World),True∧(execOp a.eval ⟨dst, .call ⟨.builtin .append,#[sO,xO],#[t,tx]⟩,ty,pos,after,guard⟩).run P w = .ok (.value cv) w'∧
   VRel pl' M' (.slice s.heap.n 0 0 xs.length (some (xs.length+k))) cv∧ct pl' M' (s.heap.push (.row sz false 0 (xs++List.replicate k z))) w'∧cW s.heap pl M w (s.heap.push (.row sz false 0 (xs++List.replicate k z))) pl' M' w'∧s.heap.n≤(s.heap.push (.row sz false 0 (xs++List.replicate k z))).n:=by
 subst hsz;subst hbt;have hsr:=bV g1 g3 hs;have hxr:=bV g1 g3 hx;obtain ⟨news,hsrc⟩:=xh (P:=P) g2 hxr (show jT s.heap (.ls xs)=some xs from rfl) hne hfit;obtain ⟨i2,zv,hz1,hz2,hz3⟩:=lh hz;rw [hi] at hz1;cases hz1
 obtain ⟨b1,b2⟩:=jj hsm;have hpos:0<xs.length:=qw.2 hne;generalize hq:a.eval sO=cs at hsr;generalize hq2:a.eval xO=cx at hxr hsrc;cases hsr with
 | ps hl htt hm hs2 hc=>
  rename_i ad cap sz c;have hcap:cap=0:=htt rfl;subst hcap;have hzr:=hzl _ _ _ (dF (pl:=pl) (M:=M) hz3);have hzt:=lV hzf z (by simp);have hzsz:zv.cells.size=i.size:=by rw [← hzr.cells.len];omega
  have hrun:=run_append_grow_src (P:=P) w t tx ty e i zv ht hi hz2 (some ad) 0 0 [] (by simp [Builtin.firstCells,loadCells,loadCellsFrom]) cx xs.length news (hsrc.src (.inl hk)) (by omega) (by omega) (growslice_fits (by omega) (by grind));have hge:=grownCap_ge w (0+xs.length) 0 e;obtain ⟨C,hC⟩ : ∃ C,C=grownCap w (0+xs.length) 0 e:=⟨_,rfl⟩
  rw [← hC] at hrun hge;have hin:=eO hzr hzt.2 (C - (0+xs.length)) hzt.1 hs0;have hzl:(Builtin.zeroCells zv.cells (C - (0+xs.length))).toList.toArray=(Array.range ((C - (0+xs.length)) * i.size)).map (zv.cells[· % zv.cells.size]!):=by grind [Builtin.zeroCells]
  have hnl:(Builtin.zeroCells zv.cells (C - (0+xs.length))).toList.length=(List.replicate (C - (0+xs.length)) z).length * i.size:=by grind [Builtin.zeroCells]
  have hin2:=jI (news:=(Builtin.zeroCells zv.cells (C - (0+xs.length))).toList) hsrc.mem (by grind) hsrc.newsLen hnl #[];have hce:(news++(Builtin.zeroCells zv.cells (C - (0+xs.length))).toList).toArray++#[]=([]++news).toArray++Builtin.zeroCells zv.cells (C - (0+xs.length)):=by grind
  rw [hce] at hin2;have hcs:(([]++news).toArray++Builtin.zeroCells zv.cells (C - (0+xs.length))).size=(xs++List.replicate (C - (0+xs.length)) z).length * i.size:=by simp only [wR,DH,AP,hsrc.newsLen,size_zeroCells,hzsz,ka,oL,jr]
  obtain ⟨cells,hcells⟩ : ∃ cells,cells=([]++news).toArray++Builtin.zeroCells zv.cells (C - (0+xs.length)):=⟨_,rfl⟩
  rw [← hcells] at hrun hin2 hcs;have hxl:(xs++List.replicate (C - (0+xs.length)) z).length=C:=by grind
  let p:Place:=⟨w.heap.size,0,i.size,C,C * i.size⟩
  have hwd:(w.drew.alloc (.cells cells e)).heap=w.heap.push (.cells cells e):=rfl;obtain ⟨r1,r2⟩:=ct.alloc (o:= .row i.size false 0 (xs++List.replicate (C - (0+xs.length)) z)) (p:=p) g2 hwd ⟨rfl,rfl,rfl,mq _⟩ rfl
   ⟨rfl,rfl,hxl.symm,by grind,rfl,hs0,fun _=>hcs,hin2.mono (fun id q hq=>⟨q,by rw [cP (by have:=g2.dom id q hq;omega)];omega,ar _,fun _=>rfl⟩) (fun _ _ h=>h)⟩
  refine ⟨C - (0+xs.length),upd pl s.heap.n p,M, .slice (some ⟨w.heap.size,0,none⟩) (0+xs.length) C,w.drew.alloc (.cells cells e),trivial,?_,?_,r1,r2,mq _⟩
  ·simp only [execOp,resolve,invoke,builtin,Sem.run_bind,Sem.run_pure,Result.andThen_ok,List.map_toArray,ic,wM,hq,hq2];show (Sem.run P (Builtin.append_ #[t,tx] ty #[Value.slice (some ad) 0 0,cx]) w).andThen _=_
   rw [hrun];rfl
  ·rw [gK] at hge ⊢;refine .slice (dB _ _ _) (ar _) hge (fun k hk=>by grind) (fun _=>⟨.inr (by grind),by grind,by grind,(fun hk=>by grind),(fun k hk=>by grind)⟩)
end
end Go.Ev
namespace Go.Ev
open Go
structure PKey where
 kind:Int
 act:Int
 item:Int
 n:Int
 nk:Int
 nl:List UInt8
 deriving DecidableEq,Inhabited
noncomputable def bP (k:PKey):AV:= .agg [.int .i64 k.kind, .int .i64 k.act, .int .i64 k.item, .int .i64 k.n, .int .i64 k.nk, .str k.nl]
theorem zV (k:PKey):(bP k).top=0:=rfl
theorem mf : ∀ (m:List (PKey × Bool)) (i:Nat),dT (be bP AV.bool m i)=0
 | [],_=>rfl
 | (k,b)::r,i=>by simp only [be,dT,zV,mf r,VQ,AV.top];trivial
theorem B0 : ∀ {es:List AEnt},dT es=0→∀ e,e∈es→e.key.top=0∧e.val.top=0
 | [],_,_,h=>by cases h
 | x::r,h,e,he=>by
  simp only [dT,VQ] at h;obtain ⟨⟨h1,h2⟩,h3⟩:(x.key.top=0∧x.val.top=0)∧dT r=0:=by
   obtain ⟨a,b⟩:=h;first | exact ⟨a,b⟩ | exact ⟨⟨a,b.1⟩,b.2⟩
  rcases gx.1 he with rfl | he
  ·exact ⟨h1,h2⟩
  ·exact B0 h3 e he
theorem bp.mapNone {pl pl':Pl} {M:dz} {p:Place} {es:List AEnt} {c:Nat} {x:Option Obj} (h:bp pl M p (.map es c) x) (ht:dT es=0):bp pl' M p (.map es c) x:=by
 match x,h with
 | some (.map entries c'),h=>
  obtain ⟨h1,h2,h3,h4⟩:=h;refine ⟨h1,h2,h3,fun i e he=>?_⟩;obtain ⟨e',q1,q2,q3,q4⟩:=h4 i e he;obtain ⟨t1,t2⟩:=B0 ht e (bD he);exact ⟨e',q1,q2.none t1,q3.none t2,q4⟩
theorem G9 {P:Program} {G:eg} (hG:gH G) {f:FuncId} {es:List AEnt} {c:Nat} {v:AV} (ht:dT es=0) (hv:v.top=0) (h0:aB P G f [.map 0] (ae [.map es c]) (fun v1 h1=>v1=v∧h1=ae [.map es c]))
  {h:AHeap} {id:Nat} (hg:h.get id=some (.map es c)):aB P G f [.map id] h (fun v1 h1=>v1=v∧h1=h):=by
 intro pl M w vs hG1 hr hvs;have hv0:=hvs.at_ 0 _ rfl;obtain ⟨p,r,hp,hpr,hx⟩ : ∃ p r,pl id=some p∧(p.ep=0→r=p.blk)∧vs.getD 0 undef = .map (some r):=by
  generalize vs.getD 0 undef=y at hv0;cases hv0 with
  | map hp ha=>simp_all
 have ho:=hr.obj id p _ hp hg;have hep:p.ep=0:=by
  generalize w.heap[p.blk]? = y at ho
  match y,ho with
  | some (.map entries c'),ho=>exact ho.1
 obtain ⟨pl1,epl⟩ : ∃ pl1:Pl,pl1=fun k=>if k=0 then some p else none:=⟨_,rfl⟩
 have hp1:pl1 0=some p:=by simp_all
 have hq1 : ∀ k q,pl1 k=some q→k=0∧q=p:=fun k q hk=>by simp_all
 have hget:(ae [AObj.map es c]).get 0=some (.map es c):=rfl;have hr1:ct pl1 M (ae [.map es c]) w:=by
  refine ⟨fun k q hk=>?_,fun k q o hk hgo=>?_,fun k q hk=>?_,fun k k' q q' hk hk' _=>?_,hr.imm,fun k q hk=>?_⟩
  ·rw [(hq1 k q hk).1];exact Nat.zero_lt_one
  ·obtain ⟨rfl,rfl⟩:=hq1 k q hk;rw [hget] at hgo;cases hgo
   exact ho.mapNone ht
  ·rw [(hq1 k q hk).2];exact hr.blk id p hp
  ·grind
  ·rw [(hq1 k q hk).2];exact hr.sep id p hp
 have hvs1:VRels pl1 M [.map 0] vs:=⟨hvs.len,fun j y hj=>by
  match j,hj with
  | 0,hj=>
   simp at hj;subst hj;rw [hx];exact .map hp1 hpr
  | j+1,hj=>grind⟩
 have fin : ∀ cv w',fP pl1 M (ae [.map es c]) w v (ae [.map es c]) cv w'→fP pl M h w v h cv w':=by
  intro cv w' ⟨pl2,M2,k1,k2,k3,k4⟩;have kept : ∀ b,b<w.heap.size→b≠p.blk→w'.heap[b]? = w.heap[b]?:=fun b hb hne=>k3.kept b hb fun k q hk _=>by grind
  obtain ⟨p2,e1,e2,e3⟩:=k3.ext 0 p hp1;have ho2:=k2.obj 0 p2 _ e1 hget;have hep2:p2.ep=0:=by
   generalize w'.heap[p2.blk]? = y at ho2
   match y,ho2 with
   | some (.map entries c'),ho2=>exact ho2.1
  have e4:p2=p:=e3 (by omega);subst e4;refine ⟨pl,M2,k1.none hv,⟨hr.dom,fun k q o hk hgo=>?_,fun k q hk=>ur (hr.blk k q hk) k3.size,hr.inj,k2.imm,fun k q hk=>?_⟩,⟨lg.refl _,fun _ _ h=>h,k3.mem,k3.size,fun b hb hk=>kept b hb fun e=>?_,fun k q hk=> .inl ⟨q,hk,rfl⟩,fun _ _ _ h=>h,fun _ _ h _=>h,k3.memNew,k3.os,k3.tape,k3.out,k3.drawn⟩,ar _⟩
  ·by_cases e:q.blk=p2.blk
   ·have:=hr.inj k id q p2 hk hp e;subst this;rw [hp] at hk;cases hk
    rw [hg] at hgo;cases hgo
    exact ho2.mapNone ht
   ·rw [kept _ (hr.blk k q hk) e];exact (hr.obj k q o hk hgo).mono (lg.refl _) k3.mem
  ·cases hM:M2 q.blk with
   | none=>rfl
   | some c2=>
    rcases k3.memNew _ c2 hM with k5 | k5
    ·rw [hr.sep k q hk] at k5;grind
    ·have:=hr.blk k q hk;omega
  grind
 rcases h0 pl1 M w vs (hG1.none hG) hr1 hvs1 with ⟨h1,h2⟩ | ⟨cv,w',v1,h1,q1,⟨q2,q3⟩,q4⟩
 ·exact .inl ⟨h1,Calls.mono h2 fun e w' ⟨cv,v1,h1,k1,⟨k2,k3⟩,k4⟩=>⟨cv,v,h,k1,⟨rfl,rfl⟩,by grind⟩⟩
 ·exact .inr ⟨cv,w',v,h,q1,⟨rfl,rfl⟩,by grind⟩
def Ir (i:Nat):AEnt→Option (PKey × Bool)
 | ⟨.agg [.int .i64 a, .int .i64 b, .int .i64 c, .int .i64 d, .int .i64 e, .str s], .bool v,j⟩=>match Nat.beq i j with | true=>some (⟨a,b,c,d,e,s⟩,v) | false=>none
 | _=>none
def Ku (x:Option (PKey × Bool)) (r:Option (List (PKey × Bool))):Option (List (PKey × Bool)):=match x,r with
 | some x,some r=>some (x::r)
 | _,_=>none
def wG:List AEnt→Nat→Option (List (PKey × Bool))
 | [],_=>some []
 | x::r,i=>Ku (Ir i x) (wG r (i+1))
theorem ME {i:Nat} {x:AEnt} {k:PKey × Bool} (h:Ir i x=some k):x=⟨bP k.1, .bool k.2,i⟩:=by
 unfold Ir at h;split at h
 ·split at h
  ·rename_i q;cases h
   rw [j1 q];rfl
  ·grind
 ·grind
theorem zk : ∀ {es:List AEnt} {i:Nat} {m:List (PKey × Bool)},wG es i=some m→es=be bP AV.bool m i
 | [],_,_,h=>by cases h;rfl
 | x::r,i,m,h=>by
  simp only [wG,Ku] at h;split at h
  ·rename_i k l q1 q2;cases h
   obtain ⟨k1,k2⟩:=k;rw [ME q1,zk q2];rfl
  ·grind
end Go.Ev
namespace Go.Ev
open Go
def nq (x y:List UInt8):Int:=match DF x y with | true=> -1 | false=>match DF y x with | true=>1 | false=>0
def wl:List Int→Int
 | []=>0
 | x::r=>match az x 0 with | true=>wl r | false=>x
def rk (a b:PKey):Int:=wl [l8 a.kind b.kind,l8 a.act b.act,l8 a.item b.item,l8 a.n b.n,l8 a.nk b.nk,nq a.nl b.nl]
structure OrdC {α:Type} (c:α→α→Int):Prop where
 refl : ∀ a,c a a=0
 anti : ∀ a b,c a b = - c b a
 trans : ∀ a b d,c a b≤0→c b d≤0→c a d≤0
section
variable {α β : Type}
theorem OrdC.lt {c:α→α→Int} (h:OrdC c) {a b d:α} (h1:c a b<0) (h2:c b d≤0):c a d<0:=by grind [cases OrdC]
theorem Rf {c:α→α→Int} (h:OrdC c) {a b d:α} (h1:c a b≤0) (h2:c b d<0):c a d<0:=by grind [cases OrdC]
theorem OrdC.on {c:α→α→Int} (h:OrdC c) (f:β→α):OrdC (fun a b=>c (f a) (f b)):=⟨fun a=>h.refl _,fun a b=>h.anti _ _,fun a b d=>h.trans _ _ _⟩
theorem OrdC.lex {c e:α→α→Int} (h:OrdC c) (k:OrdC e):OrdC (fun a b=>match az (c a b) 0 with | true=>e a b | false=>c a b):=by
 have E : ∀ a b,(match az (c a b) 0 with | true=>e a b | false=>c a b)=if c a b=0 then e a b else c a b:=fun a b=>by
  by_cases q:c a b=0
  ·rw [if_pos q,q];rfl
  ·rw [if_neg q];cases q2:az (c a b) 0 with
   | true=>grind [eJ]
   | false=>rfl
 refine ⟨fun a=>?_,fun a b=>?_,fun a b d=>?_⟩
 ·rw [E,if_pos (h.refl a),k.refl]
 ·grind [cases OrdC]
 ·rw [E,E,E];intro h1 h2;have t1:=h.trans a b d;have t2:=k.trans a b d;have l1:=@OrdC.lt _ _ h a b d;have l2:=@Rf _ _ h a b d;omega
end
theorem KH (a b:Int):l8 a b=if a<b then -1 else if b<a then 1 else 0:=by
 unfold l8;cases q:ao a b with
 | true=>rw [if_pos (aJ q)]
 | false=>
  have:=av q;rw [if_neg (by omega)];cases q2:ao b a with
  | true=>grind
  | false=>simp_all [av]
theorem OC:OrdC l8:=by
 refine ⟨fun a=>?_,fun a b=>?_,fun a b d=>?_⟩ <;> simp only [KH]
 ·simp
 ·omega
 ·intro h1 h2;split at h1 <;> split at h2 <;> (try split at h1) <;> (try split at h2) <;> split <;> (try split) <;> omega
theorem MP {a b:Int} (h:l8 a b=0):a=b:=by grind [KH]
theorem yb (a b:UInt8) (x y:List UInt8):DF (a::x) (b::y)=if a.toNat<b.toNat then true else if b.toNat<a.toNat then false else DF x y:=by
 simp only [DF];cases q:Nat.blt a.toNat b.toNat with
 | true=>simp_all
 | false=>
  have h1 : ¬ a.toNat<b.toNat:=fun h=>by rw [show Nat.blt a.toNat b.toNat=true from Nat.blt_eq.symm ▸ h] at q;grind
  rw [if_neg h1];cases q2:Nat.beq a.toNat b.toNat with
  | true=>simp_all
  | false=>
   have h2:a.toNat≠b.toNat:=fun h=>by simp_all
   grind
theorem pP (a b:UInt8) (x y:List UInt8):nq (a::x) (b::y)=if a.toNat<b.toNat then -1 else if b.toNat<a.toNat then 1 else nq x y:=by grind [nq,yb]
theorem B4 : ∀ (x:List UInt8),nq x x=0
 | []=>rfl
 | a::r=>by rw [pP,if_neg (uA _),if_neg (uA _)];exact B4 r
theorem B5 : ∀ (x y:List UInt8),nq x y = - nq y x
 | [], []=>rfl
 | [],_::_=>rfl
 | _::_, []=>rfl
 | a::x,b::y=>by
  have:=B5 x y;grind [pP]
theorem QM (y:List UInt8):nq [] y≤0:=by
 cases y with
 | nil=>exact Int.le_refl _
 | cons=>show (-1:Int)≤0;omega
theorem zh : ∀ (x y z:List UInt8),nq x y≤0→nq y z≤0→nq x z≤0
 | [],_,z,_,_=>QM z
 | a::x, [],z,h,_=>absurd h (by show ¬ (1:Int)≤0;omega)
 | a::x,b::y, [],_,h=>absurd h (by show ¬ (1:Int)≤0;omega)
 | a::x,b::y,c::z,h1,h2=>by
  have:=zh x y z;rw [pP] at h1 h2 ⊢;split at h1 <;> split at h2 <;> (try split at h1) <;> (try split at h2) <;> split <;> (try split) <;> omega
theorem Yz:OrdC nq:=⟨B4,B5,zh⟩
theorem B3 : ∀ {x y:List UInt8},nq x y=0→x=y
 | [], [],_=>rfl
 | [],_::_,h=>by cases (show (-1:Int)=0 from h)
 | _::_, [],h=>by cases (show (1:Int)=0 from h)
 | a::x,b::y,h=>by
  rw [pP] at h;split at h
  ·omega
  ·split at h
   ·omega
   ·have:=B3 h;rw [this,UInt8.toNat_inj.1 (show a.toNat=b.toNat by omega)]
theorem Yu : ∀ (x y:List UInt8),DF y x = !(DF x y || dS x y)
 | [], []=>rfl
 | [],_::_=>rfl
 | _::_, []=>rfl
 | a::x,b::y=>by
  have:=Yu x y;rw [yb,yb];simp only [dS];by_cases h1:a.toNat<b.toNat
  ·grind
  ·by_cases h2:b.toNat<a.toNat
   ·have h3:Nat.beq a.toNat b.toNat=false:=by
     cases q:Nat.beq a.toNat b.toNat with
     | false=>rfl
     | true=>simp_all
    simp_all
   grind [Nat.beq_refl]
theorem xT (x:Int) (r:List Int):wl (x::r)=match az x 0 with | true=>wl r | false=>x:=rfl
theorem Sq (x:Int):wl [x]=x:=by
 rw [xT];cases q:az x 0 with
 | true=>exact (eJ q).symm
 | false=>rfl
theorem HI:OrdC rk:=by
 have h:=(OC.on PKey.kind).lex ((OC.on PKey.act).lex ((OC.on PKey.item).lex ((OC.on PKey.n).lex ((OC.on PKey.nk).lex (Yz.on PKey.nl)))));refine cast (congrArg OrdC ?_) h;grind [rk,xT,Sq]
theorem MO {a b:PKey} (h:rk a b=0):a=b:=by
 have key : ∀ {x:Int} {r:List Int},wl (x::r)=0→x=0∧wl r=0:=fun {x r} h=>by grind [xT,eJ,iS]
 obtain ⟨h1,h⟩:=key h;obtain ⟨h2,h⟩:=key h;obtain ⟨h3,h⟩:=key h;obtain ⟨h4,h⟩:=key h;obtain ⟨h5,h⟩:=key h;obtain ⟨h6,_⟩:=key h;cases a;cases b
 grind [MP,B3]
def IV (k:PKey):List PKey→List PKey
 | []=> [k]
 | x::r=>match ao (rk x k) 0 with | true=>x::IV k r | false=>k::x::r
def gL:List PKey→List PKey
 | []=> []
 | k::r=>IV k (gL r)
theorem uU (k:PKey) : ∀ (l:List PKey),(IV k l).Perm (k::l)
 | []=> .refl _
 | x::r=>by
  unfold IV;split
  ·exact ((uU k r).cons x).trans (.swap k x r)
  simp_all
theorem nD : ∀ (l:List PKey),(gL l).Perm l
 | []=> .refl _
 | k::r=>(uU k _).trans ((nD r).cons k)
theorem vk (k:PKey) : ∀ {l:List PKey},l.Pairwise (fun a b=>rk a b≤0)→(IV k l).Pairwise (fun a b=>rk a b≤0)
 | [],_=>by simp [IV]
 | x::r,h=>by
  obtain ⟨h1,h2⟩:=List.pairwise_cons.1 h;unfold IV;split
  ·rename_i q;have:=aJ q;refine List.pairwise_cons.2 ⟨fun y hy=>?_,vk k h2⟩;rcases gx.1 ((uU k r).mem_iff.1 hy) with rfl | hy
   all_goals grind
  ·rename_i q;have h3:=av q;have h4:=HI.anti x k;have h5:rk k x≤0:=by omega
   refine List.pairwise_cons.2 ⟨fun y hy=>?_,h⟩;rcases gx.1 hy with rfl | hy
   ·omega
   ·exact HI.trans _ _ _ h5 (h1 y hy)
theorem nC : ∀ (l:List PKey),(gL l).Pairwise (fun a b=>rk a b≤0)
 | []=> .nil
 | k::r=>vk k (nC r)
theorem BK {l l':List PKey} (hp:l'.Perm l) (hs:l'.Pairwise fun a b=>rk a b≤0):l'=gL l:=List.Perm.eq_of_pairwise (le:=fun a b=>rk a b≤0) (fun a b _ _ h1 h2=>MO (by have:=HI.anti a b;omega)) hs (nC l) (hp.trans (nD l).symm)
theorem Yw (a b:PKey):PX rk b a=false↔rk a b≤0:=by
 unfold PX;have:=HI.anti a b;simp_all
theorem YK:Go.Sort.SWO (PX rk):=by
 refine ⟨fun x=>?_,fun x y z h1 h2=>?_,fun x y z h1 h2=>?_⟩
 ·rw [Yw,HI.refl];omega
 ·have h1:=of_decide_eq_true h1;have h2:=of_decide_eq_true h2;exact decide_eq_true (HI.lt h1 (by omega))
 ·rw [Yw] at *;exact HI.trans _ _ _ h2 h1
end Go.Ev
namespace Go.Ev
open Go
theorem Qr {p:UInt8→Bool} {s:aP} {n:Nat} (h : ∀ j,j<n→p (gD s j)=true) (hn:p (gD s n)=true) : ∀ j,j<n+1→p (gD s j)=true:=fun j hj=>by grind
theorem TV {s:aP} : ∀ {n i:Nat},i<n→gD (s.take n) i=gD s i:=fun {n i} h=>by
 induction s generalizing n i with
 | nil=>simp
 | cons c r ih=>
  cases n with
  | zero=>omega
  | succ n=>
   cases i with
   | zero=>rfl
   | succ i=>exact ih (by omega)
theorem L3 (s:aP):fu s=(aV (ao (.ofNat (cN ec s)) 1) && (aV (ao 4 (.ofNat (cN ec s))) && (aV (az (.ofNat (gD s 0).toNat) 48) && (aV (ao 3 (.ofNat (s.length - cN ec s))) && (s.drop (cN ec s)).all Au)))):=by
 have hl:=rN (p:=ec) (s:=s);have h1:(s.take (cN ec s)).length=cN ec s:=by simp_all
 unfold fu;rw [h1,jW];by_cases h0:cN ec s=0
 ·rw [h0];rfl
 grind [TV]
theorem FC {s:aP} : ∀ {n i:Nat},n+i<s.length→gD (s.drop n) i=gD s (n+i):=fun {n i} h=>by
 induction n generalizing s with
 | zero=>simp
 | succ n ih=>
  cases s with
  | nil=>simp_all
  | cons c r=>
   have:=ih (s:=r) (by grind);rw [show n+1+i=(n+i)+1 by omega];exact this
theorem Rk {p:UInt8→Bool} : ∀ {s:aP},(∀ i,i<s.length→p (gD s i)=true)→s.all p=true
 | [],_=>rfl
 | c::r,h=>by rw [jo,show p c=true from h 0 (Nat.zero_lt_succ _),Rk (s:=r) fun i hi=>h (i+1) (Nat.succ_lt_succ hi)];rfl
theorem CY {p:UInt8→Bool} : ∀ {s:aP} {i:Nat},i<s.length→p (gD s i)=false→s.all p=false
 | [],_,h,_=>absurd h (qk _)
 | c::r,0,_,h=>by rw [jo,show p c=false from h];rfl
 | c::r,i+1,h1,h2=>by rw [jo,CY (s:=r) (i:=i) (by simpa using h1) h2];simp
theorem NF {p:UInt8→Bool} {s:aP} {n:Nat} (h : ∀ j,n≤j→j<s.length→p (gD s j)=true):(s.drop n).all p=true:=
 Rk fun i hi=>by grind [FC]
theorem Je {p:UInt8→Bool} {s:aP} {n i:Nat} (h1:n≤i) (h2:i<s.length) (h3:p (gD s i)=false):(s.drop n).all p=false:=CY (i:=i - n) (by grind) (by grind [FC])
theorem LY {p:UInt8→Bool} {s:aP} {n i:Nat} (h : ∀ j,n≤j→j<i→p (gD s j)=true) (hi:p (gD s i)=true) : ∀ j,n≤j→j<i+1→p (gD s j)=true:=fun j h1 h2=>by grind
theorem iy {s u:List UInt8} {H:AHeap} (h:s.length+u.length≤2 ^ 62):bo H (NV (.str s) (.str u))=some (.val (.str (s++u)) H):=by grind [Nat.ble_eq_true_of_le,NV,bo]
end Go.Ev
namespace Go.Ev
open Go
def oQ (w:PWord):Bool:=aV (az w.act 0 && (az w.item 0 && az w.at_ 0))
def zo (x:TUnit):Bool:=gQ cQ x && (aV (x.head.any oQ) && aV (x.words.any oQ))
def CX (u:TUnit):Bool:=jz u && tJ zo u
def dE (w:PWord):PWord:=⟨w.text,0,0,0⟩
mutual
def cY:TUnit→TUnit
 | ⟨_,_,_,k,l,h,w,ks⟩=>⟨0,0,0,k,l,h.map dE,w.map dE,rF ks⟩
def rF:List TUnit→List TUnit
 | []=> []
 | k::r=>cY k::rF r
end
theorem xk : ∀ (l:List TUnit),rF l=l.map cY
 | []=>by rw [rF];rfl
 | k::r=>by rw [rF,xk r];rfl
theorem lU (u:TUnit):cY u=⟨0,0,0,u.kind,u.label,u.head.map dE,u.words.map dE,u.kids.map cY⟩:=by cases u;rw [cY,xk];rfl
theorem PO {p:PId} {u:TUnit} (h:cb p u=false):jY p u=false:=by unfold jY;rw [yA h];rfl
theorem U0 {p:PId} {u:TUnit} (h:jY p u=false):qL p u=cQ:=by unfold qL;simp_all
theorem Ou {p:PId} {u:TUnit} (h:jY p u=false):nM p u = -1:=by unfold nM;simp_all
theorem HE {p:PId} {u:TUnit} (h:jY p u=true):qL p u=al (Hz p u):=by unfold qL;simp_all
theorem HF {p:PId} {u:TUnit} (h:jY p u=true):nM p u=aT (cb p) (Hz p u).kids 0:=by unfold nM;simp_all
def kR (p:PId) (u:TUnit) (k:Nat):List PId:=((((an p u).take ((an p u).length - 1)).drop k).map al).reverse
theorem De (p:PId) (u:TUnit):kR p u 0=od p u:=rfl
theorem CV (p:PId) (u:TUnit):kR p u ((an p u).length - 1) = []:=by
 unfold kR;simp_all
theorem zH (p:PId) (u:TUnit) {k:Nat} (h:k+1<(an p u).length):kR p u k=kR p u (k+1)++ [al (gD (an p u) k)]:=by
 unfold kR;have h1:k<((an p u).take ((an p u).length - 1)).length:=by grind
 rw [JJ h1,ic,List.reverse_cons];grind [gD]
theorem CJ (p:PId) (u:TUnit) (k:Nat):(kR p u k).length≤(an p u).length:=by grind [kR]
def j2 (s:PStep) (u:TUnit):List TUnit:=(bB u).filter (bQ s)
def bK (s:PStep) (l:List TUnit):List TUnit:=(dQ l).filter (bQ s)
theorem xN (s:PStep) (u:TUnit):j2 s u=(bif bQ s u then [u] else [])++bK s u.kids:=by
 unfold j2 bK;rw [dx,List.filter_cons];grind
theorem lF (s:PStep):bK s [] = []:=by unfold bK;rw [fG];rfl
theorem gi (s:PStep) (k:TUnit) (r:List TUnit):bK s (k::r)=j2 s k++bK s r:=by grind [j2,bK,bT]
theorem lk (s:PStep) (u:TUnit):(j2 s u).length≤nU u:=by grind [j2,xM]
theorem qP : ∀ (l m:List TUnit),cV (l++m)=cV l+cV m
 | [],m=>by rw [kq,wR,gK]
 | x::r,m=>by rw [List.cons_append,bm,bm,qP r m,Nat.add_assoc]
theorem yq (q:TUnit→Bool) : ∀ (l:List TUnit),cV (l.filter q)≤cV l
 | []=>by simp_all
 | x::r=>by
  rw [List.filter_cons,bm];have:=yq q r;cases q x with
  | true=>rw [if_pos rfl,bm];omega
  | false=>grind
theorem yU (q:TUnit→Bool) : ∀ (l:List TUnit),cV (l.flatMap fun x=>x.kids.filter q)≤cV l
 | []=>by simp_all
 | x::r=>by
  rw [List.flatMap_cons,qP,bm];have:=yU q r;grind [yq,iz]
theorem J1 {n:Nat} : ∀ (l:List TUnit),(∀ x,x∈l→nU x≤n)→cV l≤n * l.length
 | [],_=>by simp_all [kq]
 | x::r,h=>by
  rw [bm,fg,Nat.mul_add,Nat.mul_one];have:=h x (og ..);have:=J1 r fun y hy=>h y (kw _ hy)
  omega
theorem ET (s:PStep) (u:TUnit) (hp : ∀ x,x∈bB u→nU x≤nU u):cV (j2 s u)≤nU u * nU u:=by
 have h1:=J1 (n:=nU u) (j2 s u) fun x hx=>hp x (List.mem_filter.1 hx).1
 exact bL h1 (Nat.mul_le_mul_left _ (lk s u))
theorem Hb (l:List TUnit):eM [] l=l:=rfl
theorem Ik {u:TUnit} {p:List PStep} (h:gO p=false):dV u p = []:=by unfold dV;simp_all
theorem FD {u:TUnit} (h:gO []=true):dV u [] = [u]:=by unfold dV;simp_all
theorem FE {u:TUnit} {s:PStep} {r:List PStep} (h:gO (s::r)=true) (hb:mX s=true):dV u (s::r)=eM r [u]:=by
 unfold dV;simp_all
theorem vc {u:TUnit} {s:PStep} {r:List PStep} (h:gO (s::r)=true) (hb:mX s=false):dV u (s::r)=eM r (j2 s u):=by
 unfold dV;rw [h];show eM r (bif mX s then [u] else (bB u).filter (bQ s))=_
 rw [hb];rfl
def aN (s:PStep) (l:List TUnit):List TUnit:=l.flatMap fun x=>x.kids.filter (bQ s)
section
variable {s : PStep} {l m r r1 X : List TUnit} {w w1 : TUnit} {n N : Nat} {rs0 : List PStep} {R at0 : List TUnit}
theorem H9:aN s [] = []:=rfl
theorem vj:aN s (w::r)=w.kids.filter (bQ s)++aN s r:=by grind [aN]
theorem Hc (rs:List PStep):eM (s::rs) l=eM rs (aN s l):=rfl
theorem E0:cV (aN s l)≤cV l:=yU _ l
theorem fA (h:R=eM (s::rs0) l∧cV l≤N) (e:aN s []=aN s l):R=eM rs0 []∧cV []≤N:=⟨by rw [h.1,Hc,← e];rfl,by simp_all [kq]⟩
theorem fB (h:R=eM (s::rs0) l∧cV l≤N) (e:m++aN s []=aN s l):R=eM rs0 m∧cV m≤N:=by grind [H9,Hc,E0]
theorem gA (h:aN s (w1::r1)=X):w1.kids.filter (bQ s)++aN s r1=X:=vj.symm.trans h
theorem gB (h:n=m.length∧m++aN s (w1::r1)=X∧m.length+cV (w1::r1)<N):n=m.length∧m++(w1.kids.filter (bQ s)++aN s r1)=X∧m.length+(cV w1.kids+cV r1)<N:=⟨h.1,vj (s:=s) ▸ h.2.1,by grind [bm,iz]⟩
theorem Yt (h:(w::r).filter (bQ s)++aN s r1=X) (q:bQ s w=false):r.filter (bQ s)++aN s r1=X:=by simp_all
theorem Zc (h:(w::r).filter (bQ s)++aN s r1=X) (q:bQ s w=true) (hb:1+(cV r+cV r1)<N):1 = [w].length∧ [w]++(r.filter (bQ s)++aN s r1)=X∧ [w].length+(cV r+cV r1)<N:=⟨rfl,by grind,hb⟩
theorem Ys (h:n=m.length∧m++((w::r).filter (bQ s)++aN s r1)=X∧m.length+(cV (w::r)+cV r1)<N) (q:bQ s w=false):n=m.length∧m++(r.filter (bQ s)++aN s r1)=X∧m.length+(cV r+cV r1)<N:=⟨h.1,by simp_all,by grind [bm]⟩
theorem Yr (h:n=m.length∧m++((w::r).filter (bQ s)++aN s r1)=X∧m.length+(cV (w::r)+cV r1)<N) (q:bQ s w=true):n+1=(m++ [w]).length∧(m++ [w])++(r.filter (bQ s)++aN s r1)=X∧(m++ [w]).length+(cV r+cV r1)<N:=⟨by simp_all,by simp_all,by grind [HS,bm]⟩
end
section
variable {p : PId} {u : TUnit} {i : Int} {l : List PId}
theorem NZ (hn:i=Int.ofNat (an p u).length - 2) (h0:ao i 0=false) : [al (gD (an p u) i.toNat)]=kR p u (i - 1+1).toNat:=by
 have h0:=av h0;simp only [bI] at hn;have e:(i - 1+1).toNat=i.toNat:=by omega
 rw [e,zH p u (k:=i.toNat) (by omega),show i.toNat+1=(an p u).length - 1 by omega,CV,wR]
theorem G0 (h:l=kR p u (i+1).toNat) (hi:i+2≤(an p u).length) (h0:ao i 0=false):l++ [al (gD (an p u) i.toNat)]=kR p u (i - 1+1).toNat:=by
 have h0:=av h0;grind [zH]
theorem RY (h:l=kR p u (i+1).toNat) (hi : -1≤i) (h0:ao i 0=true):l=od p u:=by
 have h0:=aJ h0;rw [h,show (i+1).toNat=0 by omega,De]
theorem RV (hn:i=Int.ofNat (an p u).length - 2) (h0:ao i 0=true):od p u = []:=by
 have h0:=aJ h0;simp only [bI] at hn;rw [← De];have:(an p u).length - 1=0:=by omega
 grind [CV]
end
theorem JH {s:PStep} {l m:List TUnit} (h:bK s l=m) (hm:m≠ []):l≠ []:=by grind [lF]
theorem UE (l:List TUnit) {z:AV} (hz:z.top=0):aY (l.map aX++ [z])=0:=ju.2 fun x hx=>by grind [gN]
theorem nF {l x r:List TUnit} {w:TUnit} {j:Nat} (h1:l.drop j=x) (h2:x=w::r):nU w+cV r≤cV l:=by
 have e:l=l.take j++(w::r):=by grind [List.take_append_drop]
 grind [qP,bm]
end Go.Ev
namespace Go.Ev
open Go
def mp (l:List aP) (n:Int):Bool:=lX l && aV (ao (.ofNat l.length) n)
def wK (n:Int):Bool:=aV (ao n 0) && aV (ao 256 n)
theorem Ij {u:TUnit} (p:List PStep) (h:nU u≤2 ^ 11):(dV u p).length≤2 ^ 22:=by
 have key : ∀ (rs:List PStep) (l:List TUnit),cV (eM rs l)≤cV l:=by
  intro rs;induction rs with
  | nil=>intro l;exact ar _
  | cons s r ih=>grind [Hc,E0]
 unfold dV;cases gO p with
 | false=>simp_all
 | true=>
  simp only [cond_true];cases p with
  | nil=>simp_all
  | cons s r=>
   simp only [];refine bL (wm _) (bL (key r _) ?_);cases mX s with
   | true=>grind [bm,kq]
   | false=>
    simp only [cond_false];have h1:=ET s u fun x hx=>dD hx
    have h2:nU u * nU u≤2 ^ 11 * 2 ^ 11:=AL h h;exact bL h1 h2
theorem FT {u:TUnit} {p:List PStep} (h:dV u p = []):aG u p=(cQ,7):=by grind [aG]
theorem fSx {u x:TUnit} {p:List PStep} (h:dV u p = [x]):aG u p=(al x,0):=by grind [aG]
theorem FR {u x y:TUnit} {r:List TUnit} {p:List PStep} (h:dV u p=x::y::r):aG u p=(cQ,8):=by grind [aG]
def rv (own:PId) (i:Int) (ok:Bool) (n:Int):PSpot × Int:=bif ok then (⟨own,i+n⟩,0) else (eX,9)
def wJ (e:Int) (sp:PSpot) (e2:Int):PSpot × Int:=bif az e 0 then (bif az e2 0 then (sp,0) else (eX,e2)) else (eX,e)
def jR (p q own:PId) (at_:Int) (ok c bs:Bool) (sp:PSpot) (e:Int):PSpot × Int:=
 bif aV ok || ((aV (aM q p) && c) || (aM q p && aV bs)) then (eX,9)
 else bif aM q p then (⟨own,at_⟩,0)
 else bif az e 0 && (aM sp.id own && ao at_ sp.at_) then (⟨sp.id,sp.at_ - 1⟩,e) else (sp,e)
end Go.Ev
namespace Go.Ev
open Go
section
variable {a i : Int} {l r x : List aP} {s : aP} {m : List PWord} {j n k : Nat}
theorem qS (h1:l.drop j=x) (h2:x=s::r) (h3:s::r=l):1 = [(⟨s,a,i, .ofNat (n+j)⟩:PWord)].length∧0 < [(⟨s,a,i, .ofNat (n+j)⟩:PWord)].length∧ [(⟨s,a,i, .ofNat (n+j)⟩:PWord)]++cK a i r (n + [(⟨s,a,i, .ofNat (n+j)⟩:PWord)].length)=cK a i l n∧ [(⟨s,a,i, .ofNat (n+j)⟩:PWord)].length+r.length=l.length:=by
 have e:=congrArg List.length (h1.trans h2);have e2:=congrArg List.length h3;simp only [jW,fg] at e e2;have:j=0:=by omega
 subst this;refine ⟨rfl,Nat.one_pos,?_,by grind⟩;rw [← h3,cK];rfl
theorem uJ (h1:l.drop j=x) (h2:x=s::r) (h:k=m.length∧0<m.length∧m++cK a i (s::r) (n+m.length)=cK a i l n∧m.length+(s::r).length=l.length) :
  k+1=(m++ [(⟨s,a,i, .ofNat (n+j)⟩:PWord)]).length∧0<(m++ [(⟨s,a,i, .ofNat (n+j)⟩:PWord)]).length∧(m++ [(⟨s,a,i, .ofNat (n+j)⟩:PWord)])++cK a i r (n+(m++ [(⟨s,a,i, .ofNat (n+j)⟩:PWord)]).length)=cK a i l n∧(m++ [(⟨s,a,i, .ofNat (n+j)⟩:PWord)]).length+r.length=l.length:=by
 have e:=congrArg List.length (h1.trans h2);obtain ⟨q1,q2,q3,q4⟩:=h;simp only [jW,fg] at e q4;have:j=m.length:=by omega
 subst this;simp only [ka,fg,oh];refine ⟨by omega,by omega,?_,by omega⟩;rw [← q3,cK,oM];rfl
end
theorem gm (l:List PWord):(bW l).length=l.length:=eZ ..
structure StampI (a i:Int) (ks:List TUnit) (n0 w0:Nat) (k n w:Nat) (m:List TUnit):Prop where
 len:m.length=k
 le:k≤ks.length
 all:m++fZ a i (ks.drop k) n w=fZ a i ks n0 w0
 num:n+cV (ks.drop k)=n0+cV ks
 wd:w+(j3 (ks.drop k)).length=w0+(j3 ks).length
theorem StampI.start (a i:Int) (ks:List TUnit) (n0 w0:Nat):StampI a i ks n0 w0 0 n0 w0 []:=⟨rfl,bN _,rfl,rfl,rfl⟩
theorem StampI.step {a i:Int} {ks:List TUnit} {n0 w0 k n w:Nat} {m:List TUnit} (h:StampI a i ks n0 w0 k n w m) (hk:k<ks.length) :
  StampI a i ks n0 w0 (k+1) (n+nU (gD ks k)) (w+(mZ (gD ks k)).length) (m++ [cT a i (gD ks k) n w]):=by
 have e:=pM hk;obtain ⟨h1,h2,h3,h4,h5⟩:=h;rw [e,Cd] at h3;rw [e,bm] at h4;rw [e,ry,ka] at h5;exact ⟨by simp_all,hk,by simp_all,by omega,by omega⟩
theorem StampI.done {a i:Int} {ks:List TUnit} {n0 w0 k n w:Nat} {m:List TUnit} (h:StampI a i ks n0 w0 k n w m) (hk : ¬ k<ks.length):m=fZ a i ks n0 w0∧n=n0+cV ks∧w=w0+(j3 ks).length:=by grind [Ey,kq,CU,cases StampI]
theorem Vn {α:Type} [Inhabited α] {m r:List α} {k:Nat} (h:m.length=k):gD (m++r) k=gD r 0:=by grind [gD]
theorem Tq {α:Type} [Inhabited α] {l:List α} {k:Nat} : gD (l.drop k) 0=gD l k:=by simp_all [gD]
theorem RM {α:Type} {m r:List α} {k:Nat} {x y:α} (h:m.length=k):(m++x::r).set k y=(m++ [y])++r:=by simp_all
def gJ (a i:Int) (ks:List TUnit) (n0 w0 k n w:Nat) (L:List TUnit):Prop:=∃ m,L=m++ks.drop k∧StampI a i ks n0 w0 k n w m
section
variable {a i : Int} {ks L : List TUnit} {n0 w0 k n w : Nat}
theorem gJ.start (a i:Int) (ks:List TUnit) (n0 w0:Nat):gJ a i ks n0 w0 0 n0 w0 ks:=⟨[],rfl,StampI.start ..⟩
theorem gJ.len (h:gJ a i ks n0 w0 k n w L):L.length=ks.length:=by
 obtain ⟨m,rfl,hI⟩:=h;grind [cases StampI]
theorem gJ.at_ (h:gJ a i ks n0 w0 k n w L):gD L k=gD ks k:=by
 obtain ⟨m,rfl,hI⟩:=h;rw [Vn hI.len,Tq]
theorem gJ.step (h:gJ a i ks n0 w0 k n w L) (hk:k<ks.length):gJ a i ks n0 w0 (k+1) (n+nU (gD L k)) (w+(mZ (gD L k)).length) (L.set k (cT a i (gD L k) n w)):=by
 rw [h.at_];obtain ⟨m,rfl,hI⟩:=h;exact ⟨m++ [cT a i (gD ks k) n w],by rw [pM hk,RM hI.len],hI.step hk⟩
theorem gJ.num (h:gJ a i ks n0 w0 k n w L):n+cV (ks.drop k)=n0+cV ks∧w+(j3 (ks.drop k)).length=w0+(j3 ks).length:=by
 obtain ⟨m,rfl,hI⟩:=h;grind [cases StampI]
theorem gJ.done (h:gJ a i ks n0 w0 k n w L) (hk : ¬ k<ks.length):L=fZ a i ks n0 w0∧n=n0+cV ks∧w=w0+(j3 ks).length:=by
 obtain ⟨m,rfl,hI⟩:=h;rw [AH (by omega),eE];exact hI.done hk
theorem gJ.room (h:gJ a i ks n0 w0 k n w L) (hk:k<ks.length):n+nU (gD L k)≤n0+cV ks∧w+(mZ (gD L k)).length≤w0+(j3 ks).length:=by
 have h1:=h.num;rw [h.at_];grind [pM,bm,ry]
end
end Go.Ev
namespace Go.Ev
open Go
section
variable {s id ep off len c l h m a b d sz bt i n k : Nat} {hp H : AHeap} {xs ys zs new : List AV} {lo hi mx cap : Option Nat} {op : Bool} {x z : AV} {vl vh vm : Option AV}
theorem iQ (hg:qd s hp id ep=some xs) (h1:iP 0 vl=some l) (h2:iP len vh=some h) (q1:l≤h) (q2:h≤c) (q3:c≠l) (e1:off+l=a) (e2:h - l=b) (e3:c - l=d) :
  bo H (dC s hp (some (.slice id ep off len (some c))) vl vh none)=some (.val (.slice id ep a b (some d)) H):=by
 have p1:Nat.ble l h=true:=mW q1;have p2:Nat.ble h c=true:=mW q2;have p3:Nat.beq c l=false:=by grind [ap]
 simp only [dC,gq,hg,h1,h2,room,pg,p1,p2,p3,Bool.and_self,e1,e2,e3,bo]
theorem Ce (hg:qd s hp id ep=some xs) (h1:iP 0 vl=some l) (h2:fh x=some h) (h3:fh z=some m) (q1:l≤h) (q2:h≤m) (q3:m≤c) (q4:m≠l) (e1:off+l=a) (e2:h - l=b) (e3:m - l=d) :
  bo H (dC s hp (some (.slice id ep off len (some c))) vl (some x) (some z))=some (.val (.slice id ep a b (some d)) H):=by
 have p1:Nat.ble l h=true:=mW q1;have p2:Nat.ble h m=true:=mW q2;have p3:Nat.beq m l=false:=by grind [ap]
 simp_all [mW,dC,gq,room,pg,bo]
theorem Jl (hg:qd s hp id ep=some xs) (h1:iP 0 vl=some l) (h2:iP len vh=some h) (q1:l=h) (q3:c=l) :
  bo H (dC s hp (some (.slice id ep off len (some c))) vl vh none)=some (.val (.slice id ep 0 0 (some 0)) H):=by
 subst q1;subst q3;have p1:Nat.ble c c=true:=mW (ar _);have p3:Nat.beq c c=true:=mC _;simp only [dC,gq,hg,h1,h2,room,pg,p1,p3,Bool.and_self,bo]
theorem Ji (hg:qd s hp id ep=some xs) (h1:iP 0 vl=some l) (h2:iP len vh=some h) (q1:l≤h) (q2:h+off≤xs.length) (e1:off+l=a) (e2:h - l=b) :
  bo H (dC s hp (some (.slice id ep off len none)) vl vh none)=some (.val (.slice id ep a b none) H):=by
 grind [Nat.ble_eq_true_of_le,dC,gq,room,pg,bo]
theorem xg (hg:H.get id=some (.row sz op ep xs)) (e:(xs.drop off).take len=zs):jT H (.slice id ep off len cap)=some zs:=by grind [Nat.beq_refl,jT,jN]
theorem UX {xs ys:List AV} {n:Nat} (h:xs.length=n):((xs++ys).drop 0).take n=xs:=by simp_all
theorem uN {xs:List AV} {t:Bool} {n:Nat} (h:aY xs=0):Nat.ble (AV.ps xs t).top n=true:=by simp_all [AV.top]
theorem KR (hg:H.get id=some (.row sz op ep xs)) (hx:jT H x=some new) (hf:dh sz new=true) (hne:new≠ []) (hc:len+new.length≤c) (hl:off+len+new.length≤xs.length) (hs:small (len+new.length) bt=true) (e1:len+new.length=n) (e2:bR xs (off+len) new=ys) :
  fj (dw sz bt H (some (.slice id ep off len (some c))) (some x))=some (.val (.slice id ep off n (some c)) (H.put id (.row sz op ep ys))):=by
 subst e1;cases new with
 | nil=>simp_all
 | cons y r=>simp_all [mW,dw,gz,gG,fj]
theorem RW (hx:jT H x=some []):fj (dw sz bt H (some (.slice id ep off len cap)) (some x))=some (.val (.slice id ep off len cap) H):=by grind [dw,gz,gG,fj]
theorem T2 (hg:H.get id=some (.row sz op ep xs)) (hx:jT H x=some new) (hf:dh sz new=true) (hne:new≠ []) (hc:c<len+new.length) (hs:small (len+new.length) bt=true) (e1:(xs.drop off).take len++new=ys) (e2:ys.length=n) :
  fj (dw sz bt H (some (.slice id ep off len (some c))) (some x))=some (.val (.slice H.n 0 0 n none) (H.push (.row sz true 0 ys))):=by
 cases new with
 | nil=>simp_all
 | cons y r=>
  have p1:Nat.beq ep ep=true:=mC ep;have p2:Nat.beq sz sz=true:=mC sz;have p3:Nat.ble (len+(y::r).length) c=false:=by grind [bd]
  simp_all [dw,gz,gG,iq,fj]
theorem Sm (hg:H.get id=some (.row sz op ep xs)) (hk:0<k) (hc:c<len+k) (hf:dh sz [z]=true) (hs:small (len+k) bt=true) (hs2:small k bt=true) (e1:(xs.drop off).take len++List.replicate k z=ys) (e2:ys.length=n) :
  fj (Bs sz bt z H (some (.slice id ep off len (some c))) (some (.int .i64 (.ofNat k))))=some (.val (.slice H.n 0 0 n none) (H.push (.row sz true 0 ys))):=by
 have p1:Nat.beq ep ep=true:=mC ep;have p2:Nat.beq sz sz=true:=mC sz;grind [Nat.ble_eq_true_of_le,Nat.blt,Bs,J4,iq,fj]
theorem KC (hg:H.get id=some (.row sz op ep xs)) (hx:jT H x=some zs) (hf:dh sz (zs.take len)=true) (e1:min zs.length len=k) (e2:bR xs off (zs.take len)=ys) :
  fj (sP sz H (some (.slice id ep off len cap)) (some x))=some (.val (.int .i64 (.ofNat k)) (H.put id (.row sz op ep ys))):=by
 grind [Nat.beq_refl,sP,KD,fj]
theorem IC (hg:H.get id=some (.row sz op ep xs)) (hf:dh sz [z]=true) (e2:bR xs off (List.replicate len z)=ys) :
  fj (ud sz z H (some (.slice id ep off len cap)))=some (.val fT (H.put id (.row sz op ep ys))):=by
 grind [Nat.beq_refl,ud,fj]
theorem pG {sz:Nat} : ∀ {xs:List AV} {n:Nat},dh sz xs=true→dh sz (xs.take n)=true
 | [],n,h=>by simp_all
 | x::r,0,_=>rfl
 | x::r,n+1,h=>by
  simp only [List.take_succ_cons,dh,ba] at h ⊢;exact ⟨h.1,pG h.2⟩
theorem pH {sz:Nat} : ∀ {xs:List AV} {n:Nat},dh sz xs=true→dh sz (xs.drop n)=true
 | [],n,h=>by simp_all
 | x::r,0,h=>h
 | x::r,n+1,h=>by
  simp only [List.drop_succ_cons,dh,ba] at h ⊢;exact pH h.2
end
theorem Av {P : Program} {G : eg} {f : FuncId} {fn : Func} {tS tR e : TypeId} {n : Nat} (hf : P.funcs[f]? = some fn) (hname : (fn.name == "runtime.NumGoroutine") = false) (hb : fn.body.isNone = true) (hn : Extern.findNext fn = none) (he : Extern.find fn = some (Extern.SlicesOverlaps.overlaps #[tS, tS] #[tR]))
  (ht:P.underlying tS=some (.slice e)) (hi:cS P e=some n) {xs ys:List AV} {t:Bool} {id off len c sz:Nat} {op:Bool} {h:AHeap} (hne:xs≠ []) (hgo:h.get id=some (.row sz op 0 ys)) :
  aB P G f [.ps xs t, .slice id 0 off len (some c)] h (fun v h'=>v = .bool false∧h'=h):=by
 intro pl M w vs hG hr hv;right;refine ⟨.bool false,w, .bool false,h,?_,⟨rfl,rfl⟩,pl,M, .bool false,hr,cW.refl _ _ _ _,ar _⟩;have v0:=hv.at_ 0 _ rfl;have v1:=hv.at_ 1 _ rfl;have hvs:vs = #[vs.getD 0 undef,vs.getD 1 undef]:=by
  have hl:vs.size=2:=hv.len.symm;apply Array.ext
  ·omega
  ·intro i h1 h2
   match i,h2 with
   | 0,_=>simp_all
   | 1,_=>simp_all
 rw [run_callFunc_extern hf hname hb hn he,hvs];generalize vs.getD 0 undef=x0 at v0;generalize vs.getD 1 undef=x1 at v1;cases v0 with
 | ps hl htt hm hs hc=>
  rename_i a cap0 sz0 c0;obtain ⟨m1,m2,m3,m4⟩:=hm hne;have hpos:0<xs.length:=qw.2 hne;cases v1 with
  | slice hp hep hl1 hk ha=>
   rename_i cap1 b p;have hcap:=hk c rfl;subst hcap;obtain ⟨tA,Xq,hA⟩:=hr.imm _ _ m2;have ho:=hr.obj id p _ hp hgo;obtain ⟨cB,tB,hB,hpe⟩ : ∃ cB tB,w.heap[p.blk]? = some (.cells cB tB (0,0))∧p.ep=0:=by
    cases hb2:w.heap[p.blk]? with
    | none=>rw [hb2] at ho;exact ho.elim
    | some ob=>
     rw [hb2] at ho;cases ob with
     | cells cB tB fr=>obtain ⟨h1,_,_,_,h5,_⟩:=ho;grind
     | _=>exact ho.elim
   have hsep:=hr.sep id p hp;have hsz:=cH hi w;have hc0:c0.size≠0:=by
    have:0<xs.length * sz0:=Nat.mul_pos hpos m4;omega
   obtain ⟨q1,-⟩:=ha hpe.symm
   suffices hh:(Extern.SlicesOverlaps.overlaps #[tS,tS] #[tR] #[.slice (some a) xs.length cap0, .slice (some b) len cap1]).run P w = .ok (.bool false) w by rw [hh];rfl
   generalize xs.length=la;change Sem.run P (α:=Value) (do
    let some t := (#[tS, tS] : Array TypeId)[0]? | stuck "slices.overlaps: no parameter types"
    let .slice elem ← underlying t | stuck "slices.overlaps: slice type expected"
    let size ← sizeOf elem
    match (some a:Option Addr),(some b:Option Addr) with
    | some a,some b=>
     if la=0∨len=0∨size=0 then pure (Value.bool false)
     else if a.block != b.block && (← frozen a) && (← frozen b) then unsupported .addressObserved
     else do
      if a.block != b.block then do
       noView a;noView b
       if ← mayBeOne a b then return Value.bool ((← choose (.extern "sameAddr.stringBytes" 2)) == 1)
      pure (Value.bool (a.block == b.block && a.off<b.off+len * size && b.off<a.off+la * size))
    | _,_=>pure (Value.bool false)) w=_
   by_cases h0:la=0∨len=0∨n=0
   ·simp [run_underlying ht,hsz,h0]
   ·have hbk:b=⟨p.blk,off * p.sz,none⟩:=by grind
    subst hbk;have hnb:a.block≠p.blk:=fun e=>by grind
    have hnb1:(a.block != p.blk)=true:=by grind
    have hnb2:(a.block == p.blk)=false:=by grind
    have f1 : ∀ o,w.frozen? ⟨p.blk,o,none⟩=false:=fun o=>by grind [World.frozen?]
    have s1:w.shape? a.block=some (tA,c0.size):=by grind [World.shape?]
    have s2:w.shape? p.blk=some (tB,cB.size):=by grind [World.shape?]
    cases hsx:c0.size with
    | zero=>omega
    | succ kA=>
     rw [hsx] at s1;cases hfa:w.frozen? a <;> cases hfb:w.frozen? { block:=a.block,off:=kA+1 } <;>
     simp [run_underlying ht,hsz,h0,hnb1,hnb2,frozen,noView,viewAt,mayBeOne,stringish,shape,Sem.run,s1,s2,f1,hfa,hfb]
def SJ (rs:List Nat):AHeap→List AObj→Nat→AHeap
 | h, [],_=>h
 | h,o::r,i=>SJ rs (h.put (fC rs i) (jC (fC rs) o)) r (i+1)
def WJ (rs:List Nat) (h:AHeap):List AObj→Nat→Prop
 | [],_=>True
 | o::r,i=>h.get (fC rs i)=some (jC (fC rs) o)∧WJ rs h r (i+1)
def PT (h:AHeap):List AObj→Nat→Prop
 | [],_=>True
 | o::r,i=>h.get i=some o∧PT h r (i+1)
def Cb (n:Nat):List AObj→Prop
 | []=>True
 | o::r=>(ep0 o=true∧o.top≤n)∧Cb n r
theorem Oa (rs:List Nat) : ∀ (l:List AObj) (h:AHeap) (i:Nat),(SJ rs h l i).n=h.n
 | [],_,_=>rfl
 | _::r,h,i=>Oa rs r _ (i+1)
theorem KN {rs:List Nat} {h:AHeap} : ∀ {l:List AObj} {i j:Nat} {o:AObj},WJ rs h l i→l[j]? = some o→h.get (fC rs (i+j))=some (jC (fC rs) o)
 | x::r,i,0,o,a,e=>by simp at e;subst e;exact a.1
 | x::r,i,j+1,o,a,e=>by
  have:=KN (i:=i+1) (j:=j) a.2 (by simpa using e);grind
theorem Fu {h:AHeap} : ∀ {l:List AObj} {i j:Nat} {o:AObj},PT h l i→l[j]? = some o→h.get (i+j)=some o
 | x::r,i,0,o,a,e=>by simp at e;subst e;exact a.1
 | x::r,i,j+1,o,a,e=>by
  have:=Fu (i:=i+1) (j:=j) a.2 (by simpa using e);grind
theorem tv {n:Nat} : ∀ {l:List AObj},Cb n l→∀ o,o∈l→ep0 o=true∧o.top≤n
 | x::r,a,o,e=>by
  rcases gx.1 e with rfl | e
  ·exact a.1
  ·exact tv a.2 o e
theorem EE {rs:List Nat} : ∀ {l:List AObj} {h:AHeap} {i k:Nat} {o:AObj},(∀ j,j<l.length→fC rs (i+j)<1000000)→(SJ rs h l i).get k=some o→
  (∃ j o',l[j]? = some o'∧k=fC rs (i+j)∧o=jC (fC rs) o')∨((∀ j,j<l.length→k≠fC rs (i+j))∧h.get k=some o)
 | [],h,i,k,o,_,e=> .inr ⟨fun j hj=>absurd hj (qk _),e⟩
 | x::r,h,i,k,o,hb,e=>by
  rcases EE (l:=r) (i:=i+1) (fun j hj=>by have:=hb (j+1) (by simp_all);grind) e with ⟨j,o',h1,h2,h3⟩ | ⟨h1,h2⟩
  ·exact .inl ⟨j+1,o',by simp_all,by grind,h3⟩
  ·rcases AHeap.get_put (by have:=hb 0 (Nat.zero_lt_succ _);omega) h2 with ⟨h3,h4⟩ | ⟨h3,h4⟩
   ·exact .inl ⟨0,x,rfl,h3,h4⟩
   grind
theorem Ff {q:Nat→Bool} : ∀ {rs:List Nat} {i:Nat},rs.all q=true→i<rs.length→q (fC rs i)=true
 | x::r,0,h,_=>by simp only [jo,ba] at h;exact h.1
 | x::r,i+1,h,hi=>by
  simp only [jo,ba] at h;exact Ff (rs:=r) (i:=i) h.2 (by simp_all)
theorem oe {P:Program} {G:eg} (hG:gH G) {f:FuncId} {args args':List AV} {v v':AV} {L L' os os':List AObj} (rs:List Nat)
  (h0:aB P G f args (ae L) (fun v1 h1=>v1=v∧h1=ae L')) (ea:kI (fC rs) args=args') (ev:Ev.ren (fC rs) v=v')
  (c:(x8 rs && (Nat.beq rs.length L.length && (Nat.beq L'.length L.length && rs.all fun x=>Nat.blt x 1000000)))=true)
  (hL:Cb L.length L) (hL':Cb L.length L') (ht:aY args≤L.length) (hv:v.top≤L.length)
  (a1:WJ rs (ae os) L 0) (a2:PT (ae L') L' 0) (a3:ae os'=SJ rs (ae os) L' 0):aB P G f args' (ae os) (fun v1 h1=>v1=v'∧h1=ae os'):=by
 simp only [ba,ap,decide_eq_true_eq] at c;obtain ⟨c1,c2,c3,c4⟩:=c;subst ea;subst ev;rw [a3];refine aB.frame hG (fC rs) c3 (tv hL) (tv hL') (fun i o hi=>by have:=Fu a2 hi;simp_all) ht hv (fun i j hi hj=>pA c1 i j (by omega) (by omega)) h0
  (fun i o hi=>by have:=KN a1 hi;simp_all) (fun k o hk=>?_) (Oa rs L' _ 0)
 rcases EE (fun j hj=>by have:=Ff c4 (show 0+j<rs.length by omega);simp_all) hk with ⟨j,o',h1,h2,h3⟩ | ⟨h1,h2⟩
 all_goals grind
theorem tE {ρ:Nat→Nat} {sz ep:Nat} {b:Bool} {xs:List AV} (h:aY xs=0):jC ρ (.row sz b ep xs) = .row sz b ep xs:=by grind [jC,eN]
theorem fq {P:Program} {G:eg} (hG:gH G) {f:FuncId} {args args':List AV} {v v':AV} {sz:Nat} {b b':Bool} {xs xs':List AV} {os os':List AObj} (id:Nat) (hx:aY xs=0) (hx':aY xs'=0)
  (h0:aB P G f args (ae [.row sz b 0 xs]) (fun v1 h1=>v1=v∧h1=ae [.row sz b' 0 xs'])) (ea:kI (fC [id]) args=args') (ev:Ev.ren (fC [id]) v=v') (c:Nat.blt id 1000000=true)
  (ht:Nat.ble (aY args) 1=true) (hv:Nat.ble v.top 1=true) (a1:(ae os).get id=some (.row sz b 0 xs)) (a3:ae os'=(ae os).put id (.row sz b' 0 xs')):aB P G f args' (ae os) (fun v1 h1=>v1=v'∧h1=ae os'):=
 oe hG [id] h0 ea ev (by simp only [x8,iR,jo,List.all_nil,c];rfl) ⟨⟨rfl,by grind [AObj.top]⟩,trivial⟩ ⟨⟨rfl,by grind [AObj.top]⟩,trivial⟩ (ng ht) (ng hv)
  ⟨by rw [tE hx];exact a1,trivial⟩ ⟨rfl,trivial⟩ (by rw [a3];show _=AHeap.put _ _ (jC _ _);rw [tE hx'];rfl)
end Go.Ev
namespace Go.Ev
open Go
def lI (u:TUnit) (ks:List TUnit):TUnit:=⟨u.act,u.item,u.n,u.kind,u.label,u.head,u.words,ks⟩
def kT (w:List PWord) (u:TUnit):TUnit:=⟨u.act,u.item,u.n,u.kind,u.label,u.head,w,u.kids⟩
def yu (w:List PWord) (u:TUnit):TUnit:=⟨u.act,u.item,u.n,u.kind,u.label,w,u.words,u.kids⟩
def oK (s:aP) (u:TUnit):TUnit:=⟨u.act,u.item,u.n,u.kind,s,u.head,u.words,u.kids⟩
def vw (i:Nat) (x:TUnit) (l:List TUnit):List TUnit:=l.take i++(x::l.drop i)
def iK (i:Nat) (u:TUnit):TUnit:=lI u (u.kids.eraseIdx i)
def dN (i:Nat) (x:TUnit) (u:TUnit):TUnit:=lI u (vw i x u.kids)
mutual
def dq (p:PId) (f:TUnit→TUnit):TUnit→TUnit
 | ⟨a,i,n,k,l,h,w,ks⟩=>bif gQ p ⟨a,i,n,k,l,h,w,ks⟩ then f ⟨a,i,n,k,l,h,w,ks⟩ else ⟨a,i,n,k,l,h,w,ed p f ks⟩
def ed (p:PId) (f:TUnit→TUnit):List TUnit→List TUnit
 | []=> []
 | k::r=>bif cb p k then dq p f k::r else k::ed p f r
end
section
variable {p : PId} {f : TUnit → TUnit} {u w : TUnit} {l r : List TUnit} {i : Nat}
theorem DP (p:PId) (f:TUnit→TUnit) (u:TUnit):dq p f u=bif gQ p u then f u else lI u (ed p f u.kids):=by cases u;rw [dq];rfl
theorem qt:ed p f [] = []:=by rw [ed]
theorem jb (k:TUnit) (r:List TUnit):ed p f (k::r)=bif cb p k then dq p f k::r else k::ed p f r:=by rw [ed]
theorem tj (h:gQ p u=true):dq p f u=f u:=by rw [DP,h];rfl
theorem ni (h:gQ p u=false):dq p f u=lI u (ed p f u.kids):=by rw [DP,h];rfl
def ia (p:PId) (f:TUnit→TUnit) (l:List TUnit) (i:Nat) (r:List TUnit):Prop:=ed p f l=l.take i++ed p f r
theorem ia.start:ia p f l 0 l:=rfl
theorem ia.skip (h:ia p f l i (w::r)) (hd:l.drop i=w::r) (hw:cb p w=false):ia p f l (i+1) r:=by
 unfold ia at *;have hi:i<l.length:=by grind [List.drop_eq_nil_of_le]
 have e:l[i]=w:=by
  have:=congrArg (·[0]?) hd;grind
 grind [jb]
theorem ia.hit (h:ia p f l i (w::r)) (hd:l.drop i=w::r) (hw:cb p w=true):ed p f l=l.set i (dq p f w):=by
 unfold ia at h;have hi:i<l.length:=by grind [List.drop_eq_nil_of_le]
 rw [h,jb,hw,List.set_eq_take_append_cons_drop,if_pos hi];have:l.drop (i+1)=r:=by rw [← AM,hd];rfl
 simp_all
theorem ia.done (h:ia p f l i []) (hd:l.drop i = []):ed p f l=l:=by simp_all [ia,qt,re]
theorem HK : ∀ (u:TUnit),cb p u=false→dq p f u=u:=TUnit.ind fun u ih h=>by
 have hw:=yA h;rw [gU] at hw;cases hi:gQ p u with
 | true=>grind
 | false=>
  rw [hi] at hw;simp only [cond_false] at hw;have key : ∀ (r:List TUnit),(∀ k,k∈r→k∈u.kids)→ch p r = []→ed p f r=r:=by
   intro r;induction r with
   | nil=>grind [qt]
   | cons k r ihr=>
    intro hm hr;cases hk:cb p k with
    | true=>grind [mE,kz]
    | false=>simp_all [iF,jb]
  have hk:ch p u.kids = []:=by grind
  rw [ni hi,key u.kids (fun _ h=>h) hk];cases u;rfl
end
end Go.Ev
namespace Go.Ev
open Go
noncomputable def bh (n:Nat):AV:= .int .i64 (.ofNat n)
theorem VT (n:Nat):(bh n).top=0:=rfl
section
variable {l part : List aP} {i : Nat} {acc : List Nat}
def mY (l part:List aP) (i:Nat) (acc:List Nat):Prop:=acc.length≤i∧i≤l.length+part.length∧∃ f,qN l part=acc++uQ part f l i∧l.length<i+f
theorem mY.start (hp:0<part.length):mY l part 0 []:=by
 refine ⟨ar _,bN _,l.length+1,?_,by omega⟩;unfold qN;grind
theorem JP {f:Nat} (hi:i+part.length≤l.length):uQ part (f+1) l i=bif bv dS ((l.take (i+part.length)).drop i) part then i::uQ part f l (i+part.length) else uQ part f l (i+1):=by
 have e:(l.take (i+part.length)).drop i=(l.drop i).take part.length:=by grind
 rw [uQ,mW hi,e];rfl
theorem mY.skip (h:mY l part i acc) (hi:i+part.length≤l.length) (hp:0<part.length) (hm:bv dS ((l.take (i+part.length)).drop i) part=false):mY l part (i+1) acc:=by
 obtain ⟨h1,h2,f,h3,h4⟩:=h;cases f with
 | zero=>omega
 | succ f=>rw [JP hi,hm] at h3;exact ⟨by omega,by omega,f,h3,by omega⟩
theorem mY.hit (h:mY l part i acc) (hi:i+part.length≤l.length) (hp:0<part.length) (hm:bv dS ((l.take (i+part.length)).drop i) part=true):mY l part (i+part.length) (acc++ [i]):=by
 obtain ⟨h1,h2,f,h3,h4⟩:=h;cases f with
 | zero=>omega
 | succ f=>
  rw [JP hi,hm] at h3;exact ⟨by grind,by omega,f,by simp_all,by omega⟩
theorem mY.done (h:mY l part i acc) (hi:l.length<i+part.length):qN l part=acc:=by
 obtain ⟨h1,h2,f,h3,h4⟩:=h;cases f with
 | zero=>grind [uQ]
 | succ f=>grind [uQ,bd]
theorem mY.len (h:mY l part i acc):acc.length≤l.length+part.length:=bL h.1 h.2.1
end
def pp (g:Nat):List Nat→Nat→Nat→Prop
 | [],_,_=>True
 | p::r,lo,n=>lo≤p∧p+g≤n∧pp g r (p+g) n
theorem qM (part:List aP) (hp:0<part.length) : ∀ (f:Nat) (l:List aP) (i:Nat),pp part.length (uQ part f l i) i l.length
 | 0,l,i=>by rw [uQ];trivial
 | f+1,l,i=>by
  rw [uQ];have key : ∀ (m:List Nat) (a b n:Nat),a≤b→pp part.length m b n→pp part.length m a n:=by
   intro m;cases m with
   | nil=>intro _ _ _ _ _;trivial
   | cons p r=>intro a b n h ⟨h1,h2,h3⟩;exact ⟨bL h h1,h2,h3⟩
  cases hb:Nat.ble (i+part.length) l.length with
  | false=>trivial
  | true=>
   rw [bd] at hb;have hb:=of_decide_eq_true hb;simp only [cond_true];cases bv dS ((l.drop i).take part.length) part with
   | true=>exact ⟨ar _,hb,qM part hp f l _⟩
   | false=>exact key _ _ _ _ (mq i) (qM part hp f l (i+1))
theorem Bh (l part:List aP):pp part.length (qN l part) 0 l.length:=by
 unfold qN;cases part with
 | nil=>trivial
 | cons x r=>exact qM (x::r) (Nat.succ_pos _) _ l 0
def na (g:Nat) (l:List Nat) (n:Nat):Prop:=∀ i,i<l.length→gD l i+g≤n∧∀ j,j<i→gD l j+g≤gD l i
theorem zF {g n:Nat} : ∀ {l:List Nat} {lo:Nat},pp g l lo n→na g l n
 | [],_,_=>fun i hi=>absurd hi (qk _)
 | p::r,lo,⟨h1,h2,h3⟩=>by
  have low : ∀ (m:List Nat) (a:Nat),pp g m a n→∀ i,i<m.length→a≤gD m i:=by
   intro m;induction m with
   | nil=>simp_all
   | cons q m ih=>
    intro a ⟨k1,k2,k3⟩ i hi;cases i with
    | zero=>exact k1
    | succ i=>have:=ih _ k3 i (by simp_all);grind [gD]
  intro i hi;cases i with
  | zero=>exact ⟨h2,fun j hj=>absurd hj (qk _)⟩
  | succ i=>
   have hi':i<r.length:=by simp_all
   obtain ⟨k1,k2⟩:=zF h3 i hi';refine ⟨k1,fun j hj=>?_⟩;cases j with
   | zero=>exact low r _ h3 i hi'
   | succ j=>exact k2 j (by omega)
def fL (at_ g:Nat) (m l:List PWord):List PWord:=l.take at_++m++l.drop (at_+g)
def oC (a b:Int) (g:Nat) (ps:List Nat) (fresh:List aP):Nat→List PWord→List PWord
 | 0,l=>l
 | i+1,l=>oC a b g ps fresh i (fL (gD ps i) g (cK a b fresh (i * fresh.length)) l)
theorem Lm {at_ g:Nat} {m l:List PWord} (h:at_+g≤l.length):(fL at_ g m l).length+g=l.length+m.length:=by grind [fL]
structure PutI (a b:Int) (g:Nat) (ps:List Nat) (fresh:List aP) (w:List PWord) (i:Nat) (l:List PWord):Prop where
 le:i≤ps.length
 all:oC a b g ps fresh ps.length w=oC a b g ps fresh i l
 room : ∀ j,j<i→gD ps j+g≤l.length
 small:l.length≤w.length+(ps.length - i) * fresh.length
theorem PutI.start {a b:Int} {g:Nat} {ps:List Nat} {fresh:List aP} {w:List PWord} (h:na g ps w.length):PutI a b g ps fresh w ps.length w:=⟨ar _,rfl,fun j hj=>(h j hj).1,by omega⟩
theorem PutI.step {a b:Int} {g:Nat} {ps:List Nat} {fresh:List aP} {w l:List PWord} {i:Nat} (hg:na g ps w.length) (h:PutI a b g ps fresh w (i+1) l):PutI a b g ps fresh w i (fL (gD ps i) g (cK a b fresh (i * fresh.length)) l):=by
 have hr:=h.room i (Nat.lt_succ_self i);have hl:=Lm (m:=cK a b fresh (i * fresh.length)) hr;rw [fH] at hl;have hle:=h.le;refine ⟨by omega,h.all,fun j hj=>?_,?_⟩
 ·have:=(hg i (by omega)).2 j hj;grind
 ·have hs:=h.small;have e:(ps.length - i) * fresh.length=(ps.length - (i+1)) * fresh.length+fresh.length:=by rw [show ps.length - i=(ps.length - (i+1))+1 by omega,qv]
  omega
theorem PutI.done {a b:Int} {g:Nat} {ps:List Nat} {fresh:List aP} {w l:List PWord} (h:PutI a b g ps fresh w 0 l):oC a b g ps fresh ps.length w=l:=h.all
theorem PutI.len {a b:Int} {g:Nat} {ps:List Nat} {fresh:List aP} {w l:List PWord} {i:Nat} (h:PutI a b g ps fresh w i l) (h1:w.length≤2 ^ 18) (h2:ps.length≤2 ^ 9) (h3:fresh.length≤2 ^ 9):l.length≤2 ^ 19:=by
 have:=h.small;have:(ps.length - i) * fresh.length≤2 ^ 9 * 2 ^ 9:=AL (by omega) h3;omega
section
variable {sz b id n n' k l h m : Nat} {H : AHeap} {xs ys zs : List AV} {t : Bool} {x z : AV} {vl : Option AV}
theorem Hf (hh:pY sz xs=true) (h1:iP 0 vl=some l) (h2:fh x=some h) (h3:fh z=some h) (q1:l≤h) (q2:h≤xs.length) (e:(xs.take h).drop l=ys):bo H (dC sz H (some (.ps xs t)) vl (some x) (some z))=some (.val (.ps ys true) H):=by simp_all [mW,dC,gq,sM,bo]
theorem N1 (hh:pY sz xs=true) (h1:fh x=some l) (q1:l≤xs.length) (e:xs.drop l=ys):bo H (dC sz H (some (.ps xs false)) (some x) none none)=some (.val (.ps ys false) H):=by
 have p2:Nat.ble l xs.length=true:=mW q1;have p3:Nat.ble xs.length xs.length=true:=mW (ar _);simp only [dC,gq,hh,iP,h1,sM,p2,p3,Bool.and_self,List.take_length,e,Bool.false_and,bo]
theorem XI (hf:dh sz xs=true) (hf2:dh sz ys=true) (hne:ys≠ []) (hs:small (xs.length+ys.length) b=true) (e:xs++ys=zs) (e2:zs.length=n):fj (dw sz b H (some (.ps xs true)) (some (.ls ys)))=some (.val (.slice H.n 0 0 n none) (H.push (.row sz true 0 zs))):=by
 cases ys with
 | nil=>simp_all
 | cons y r=>simp_all [dw,gz,jT,jN,gG,iq,fj]
theorem RX (e:ys = []):fj (dw sz b H (some (.ps xs true)) (some (.ls ys)))=some (.val (.ps xs true) H):=by subst e;rfl
def rE:List AV→Nat
 | []=>0
 | _::_=>1
theorem T1 (hg:H.get id=some (.row sz true 0 xs)) (hp:H.put id (.row sz true 0 xs)=H) (hf:dh sz ys=true) (hl:xs.length=n) (hs:small (n+ys.length) b=true) (e:xs++ys=zs) (e2:zs.length=n') :
  fj (dw sz b H (some (.slice id 0 0 n none)) (some (.ps ys t)))=some (.val (.slice id (rE ys) 0 n' none) (H.put id (.row sz true (rE ys) zs))):=by
 cases ys with
 | nil=>
  rw [eE] at e;subst e;simp only [rE,hp,← e2,hl];rfl
 | cons y r=>
  have p1:Nat.beq 0 0=true:=rfl;have p2:Nat.beq sz sz=true:=mC sz;have p4:xs.take n=xs:=re (by omega);have p5:n+(y::r).length=n':=by grind
  have p3:Nat.ble n' xs.length=false:=by grind [bd]
  rw [p5] at hs;simp only [dw,gz,jT,jN,gG,hf,hg,p1,p2,hs,Bool.and_self,p3,p4,e,p5,rE,fj,gK]
theorem RZ (hf:dh sz xs=true) (hf2:dh sz ys=true) (hne:ys≠ []) (hs:small (xs.length+ys.length) b=true) (e:xs++ys=zs) (e2:zs.length=n):fj (dw sz b H (some (.ps xs true)) (some (.ps ys t)))=some (.val (.slice H.n 0 0 n none) (H.push (.row sz true 0 zs))):=by
 cases ys with
 | nil=>simp_all
 | cons y r=>simp_all [dw,gz,jT,jN,gG,iq,fj]
end
end Go.Ev
namespace Go.Ev
open Go
def lG (l:List Nat) (n:Int):List Nat:=bif az n 0 then l else bif ao (Int.ofNat l.length) n then [] else (l.take n.toNat).drop (n.toNat - 1)
theorem TY {l:List Nat} {a b i:Nat} (h:i<((l.take b).drop a).length):gD ((l.take b).drop a) i=gD l (a+i):=by grind [gD]
theorem MQ {g n a b:Nat} {l:List Nat} (h:na g l n):na g ((l.take b).drop a) n:=by
 intro i hi;have hl:((l.take b).drop a).length≤l.length - a:=by grind
 obtain ⟨h1,h2⟩:=h (a+i) (by omega);grind [TY]
theorem FA {g n:Nat} {l:List Nat} {k:Int} (h:na g l n):na g (lG l k) n:=by
 unfold lG;cases az k 0 with
 | true=>grind
 | false=>
  cases ao (Int.ofNat l.length) k with
  | true=>exact fun i hi=>absurd hi (qk _)
  | false=>exact MQ h
theorem ER (l:List Nat) (k:Int):(lG l k).length≤l.length:=by
 unfold lG;grind
theorem CW {g n:Nat} (hg:0<g) : ∀ {l:List Nat} {lo:Nat},pp g l lo n→lo≤n→l.length+lo≤n
 | [],lo,_,h=>by simp_all
 | p::r,lo,⟨h1,h2,h3⟩,_=>by have:=CW hg h3 h2;grind
theorem JO (l part:List aP):(qN l part).length≤l.length:=by
 cases part with
 | nil=>exact bN _
 | cons x r=>have:=CW (Nat.succ_pos _) (Bh l (x::r)) (bN _);omega
theorem EP (l part:List aP):na part.length (qN l part) l.length:=zF (Bh l part)
def tY (c i:Nat) (l:List Nat):List Nat:=(l.take i).map (· + c)++l.drop i
theorem Ra (c i:Nat) (l:List Nat):(tY c i l).length=l.length:=by grind [tY]
theorem K3 {c i:Nat} {l:List Nat} (h:i<l.length):gD (tY c i l) i=gD l i:=by
 unfold tY gD List.getD;grind
theorem NU {c i:Nat} {l:List Nat} (h:i<l.length):(tY c i l).set i (gD l i+c)=tY c (i+1) l:=by
 unfold tY;have h1:((l.take i).map (· + c)).length=i:=by grind
 rw [List.set_append_right _ _ (by omega),h1,Nat.sub_self,JJ h,List.set_cons_zero,Jq h,mB];grind [gD]
theorem NY {c n:Nat} {l m:List Nat} (h:l.length=n):(tY c n (l++m)).take n=l.map (· + c):=by grind [tY]
theorem Ix {c i:Nat} {l:List Nat} (h:i<l.length):gD (l.map (· + c)) i=gD l i+c:=by grind [gD]
theorem P3 {c n:Nat} {l:List Nat} (h:na c l n):na 0 (l.map (· + c)) n:=by
 intro i hi;rw [eZ] at hi;obtain ⟨h1,h2⟩:=h i hi;grind [Ix]
def qG (l:List PWord):List PWord:=bif ao 256 (Int.ofNat l.length) then [] else l
def tG (l:List PWord):Int:=bif ao 256 (Int.ofNat l.length) then 6 else 0
def wW (a b:Int) (g:Nat) (ps:List Nat) (fresh:List aP) (w:List PWord):List PWord × Int:=(qG (oC a b g ps fresh ps.length w),tG (oC a b g ps fresh ps.length w))
def Eu (a b:Int) (w:List PWord) (old new:List aP) (n:Int):List PWord × Int:=bif az (Int.ofNat old.length) 0 then ([],1) else bif az (Int.ofNat (lG (qN (bW w) old) n).length) 0 then ([],4) else wW a b old.length (lG (qN (bW w) old) n) new w
def CR (a b:Int) (w:List PWord) (part new:List aP) (n:Int):List PWord × Int:=
 bif az (Int.ofNat new.length) 0 || (az (Int.ofNat part.length) 0 && aV (az n 0)) then ([],1)
 else bif az (Int.ofNat part.length) 0 then wW a b 0 [0] new w
 else bif az (Int.ofNat (lG (qN (bW w) part) n).length) 0 then ([],4) else wW a b 0 ((lG (qN (bW w) part) n).map (· + part.length)) new w
end Go.Ev
namespace Go.Ev
open Go
def fX (x k:TUnit):Bool:=az k.kind x.kind && dS k.label x.label
def ta (p x:TUnit):Int:=bif jZ p.kind x.kind then (bif p.kids.any (fX x) then 10 else 0) else 9
def sI (u:TUnit) (p:PId) (x:TUnit):Bool:=ao 8 (Int.ofNat ((od p u).length+1+fD x))
abbrev oF:=TUnit × Int
def IK (u:TUnit) (te:Int) (full cf:Bool) (u2:TUnit):oF:=bif az te 0 then (bif full then (u,6) else bif cf then (u,5) else (u2,0)) else (u,te)
def AK (u:TUnit) (e:Int) (u2:TUnit):oF:=bif az e 0 then (u2,0) else (u,e)
def Ow (u:TUnit) (te:Int) (u2:TUnit):oF:=bif az te 10 then (u,10) else (u2,0)
def LO (u:TUnit) (te:Int) (full:Bool) (u2:TUnit):oF:=bif az te 0 then (bif full then (u,6) else (u2,0)) else (u,te)
def AJ (e1 e2:Int) (sp:PSpot) (e3:Int):PSpot × Int:=bif az e1 0 then (bif az e2 0 then (bif az e3 0 then (sp,0) else (eX,e3)) else (eX,e2)) else (eX,e1)
noncomputable def eB (r:oF):AV:= .tuple [eU r.1, .int .i64 r.2]
end Go.Ev
namespace Go.Ev
open Go
theorem tH {p:PId} {u:TUnit} (h:cb p u=true):eW p u∈bB u∧al (eW p u)=p:=by grind [Ns,Rs,BM]
theorem pF (l m:List TUnit):bz (l++m)=bz l++bz m:=by
 induction l with
 | nil=>rw [j9];rfl
 | cons k r ih=>grind [dO]
theorem pV (u:TUnit) (l:List TUnit):cC (lI u l)=al u::bz l:=by rw [gC];rfl
theorem jv (u:TUnit):nU u=(cC u).length:=(si u).symm
theorem u0 (u:TUnit) (l:List TUnit):bB (lI u l)=lI u l::dQ l:=by rw [dx];rfl
theorem qp {q:PId} : ∀ (u:TUnit),cb q u=true→∃ v C,v∈bB u∧al v=q∧(cC u).Perm (C++cC v)∧∀ f,(cC (dq q f u)).Perm (C++cC (f v))∧
  ∀ x,x∈bB (dq q f u)→x∈bB (f v)∨∃ y,y∈bB u∧al x=al y∧x.kids.length=y.kids.length∧x.head=y.head∧x.words=y.words:=TUnit.ind fun u ih h=>by
 cases hi:gQ q u with
 | true=>
  refine ⟨u, [],dJ u,(gw q u).1 hi,List.Perm.refl _,fun f=>?_⟩;grind [tj]
 | false=>
  have key : ∀ (r:List TUnit),(∀ k,k∈r→k∈u.kids)→ch q r≠ []→∃ v C,v∈dQ r∧al v=q∧(bz r).Perm (C++cC v)∧∀ f,(bz (ed q f r)).Perm (C++cC (f v))∧(ed q f r).length=r.length∧
    ∀ x,x∈dQ (ed q f r)→x∈bB (f v)∨∃ y,y∈dQ r∧al x=al y∧x.kids.length=y.kids.length∧x.head=y.head∧x.words=y.words:=by
   intro r;induction r with
   | nil=>grind [j4]
   | cons k r ihr=>
    intro hm hw;cases hk:cb q k with
    | true=>
     obtain ⟨v,C,h1,h2,h3,h4⟩:=ih k (hm k (og ..)) hk;refine ⟨v,C++bz r,by grind [bT],h2,?_,fun f=>?_⟩
     ·grind [dO]
     ·have e:ed q f (k::r)=dq q f k::r:=by rw [jb,hk];rfl
      rw [e];refine ⟨?_,rfl,fun x hx=>?_⟩
      ·grind [dO]
      ·rw [bT] at hx;rcases kO.1 hx with hx | hx
       ·grind [bT]
       ·exact .inr ⟨x,by grind [bT],rfl,rfl,rfl,rfl⟩
    | false=>
     rw [iF hk] at hw;obtain ⟨v,C,h1,h2,h3,h4⟩:=ihr (fun x hx=>hm x (kw _ hx)) hw;refine ⟨v,cC k++C,by grind [bT],h2,by grind [dO],fun f=>?_⟩;have e:ed q f (k::r)=k::ed q f r:=by rw [jb,hk];rfl
     rw [e];refine ⟨by grind [dO],by simp_all,fun x hx=>?_⟩;rw [bT] at hx;rcases kO.1 hx with hx | hx
     ·exact .inr ⟨x,by grind [bT],rfl,rfl,rfl,rfl⟩
     grind [bT]
  have hw:ch q u.kids≠ []:=by
   intro e;have:=kz h;rw [gU,hi,e] at this;simp_all
  obtain ⟨v,C,h1,h2,h3,h4⟩:=key u.kids (fun _ h=>h) hw;refine ⟨v,al u::C,by grind [dx],h2,by grind [gC],fun f=>?_⟩;rw [ni hi];refine ⟨by grind [pV],fun x hx=>?_⟩;rw [u0] at hx;rcases gx.1 hx with rfl | hx
  ·exact .inr ⟨u,dJ u,rfl,(h4 f).2.1,rfl,rfl⟩
  grind [dx]
theorem tL {p:PId} : ∀ (u:TUnit),jY p u=true→∃ q i,q∈bB u∧qL p u=al q∧nM p u=Int.ofNat i∧i<q.kids.length∧al (gD q.kids i)=p:=TUnit.ind fun u ih h=>by
 have hh:cb p u=true:=by
  cases e:cb p u with
  | true=>rfl
  | false=>grind [PO]
 cases hi:gQ p u with
 | true=>
  unfold jY at h;rw [ru hi] at h;cases h
 | false=>
  have key : ∀ (r:List TUnit),ch p r≠ []→∃ j k,j<r.length∧gD r j=k∧cb p k=true∧ch p r=an p k∧∀ n,aT (cb p) r n=Int.ofNat (n+j):=by
   intro r;induction r with
   | nil=>grind [j4]
   | cons k r ihr=>
    intro hw;cases hk:cb p k with
    | true=>
     refine ⟨0,k,Nat.succ_pos _,rfl,hk,mE hk,fun n=>?_⟩;unfold aT;simp_all
    | false=>
     rw [iF hk] at hw;obtain ⟨j,k2,h1,h2,h3,h4,h5⟩:=ihr hw;refine ⟨j+1,k2,by simp_all,h2,h3,by grind [iF],fun n=>?_⟩;have e:aT (cb p) (k::r) n=aT (cb p) r (n+1):=by
      show (bif cb p k then _ else _)=_
      simp_all
     grind
  have hw:ch p u.kids≠ []:=by
   intro e;have:=kz hh;rw [gU,hi,e] at this;simp_all
  obtain ⟨j,k,h1,h2,h3,h4,h5⟩:=key u.kids hw;obtain ⟨y,t,e⟩:=uq h3;have hway:an p u=u::an p k:=by rw [gU,hi,h4,e];rfl
  have hkm:k∈u.kids:=h2 ▸ gy h1;rw [HE h,HF h];cases hk:jY p k with
  | true=>
   obtain ⟨q,i,q1,q2,q3,q4,q5⟩:=ih k hkm hk;rw [HE hk] at q2;rw [HF hk] at q3;have e2:Hz p u=Hz p k:=by
    unfold Hz;rw [hway];have:2≤(an p k).length:=by
     unfold jY at hk;cases hl:ao (Int.ofNat (an p k).length) 2 with
     | true=>grind
     | false=>have:=av hl;grind
    show gD (u::an p k) ((an p k).length+1 - 2)=_
    rw [show (an p k).length+1 - 2=((an p k).length - 2)+1 by omega];rfl
   grind [bC]
  | false=>
   have hl:(an p k).length=1:=by
    unfold jY at hk;cases hl:ao (Int.ofNat (an p k).length) 2 with
    | false=>grind
    | true=>have:=aJ hl;grind
   have hik:gQ p k=true:=by
    cases hik:gQ p k with
    | true=>rfl
    | false=>
     rw [gU,hik] at hl e;grind
   have e2:Hz p u=u:=by
    unfold Hz;rw [hway];show gD (u::an p k) ((an p k).length+1 - 2)=_
    rw [hl];rfl
   rw [e2,h5 0,gK];exact ⟨u,j,dJ u,rfl,rfl,h1,by grind [gw]⟩
theorem TJ {p:PId} {u:TUnit} (h:cb p u=true) (hi:gQ p u=false):jY p u=true:=by
 have hw:an p u≠ []:=kz h;have e:an p u=match ch p u.kids with | []=> [] | y::t=>u::y::t:=by rw [gU,hi];rfl
 unfold jY;rw [e] at hw ⊢;cases ew:ch p u.kids with
 | nil=>simp_all
 | cons y t=>
  show aV (ao (Int.ofNat (u::y::t).length) 2)=true
  rw [vK (by grind)];rfl
theorem S9 {v:TUnit} {i:Nat} (h:i<v.kids.length):(cC v).Perm (cC (iK i v)++cC (gD v.kids i)):=by
 unfold iK;rw [gC v,pV,AG,pF];have e:v.kids=v.kids.take i++(gD v.kids i::v.kids.drop (i+1)):=by grind [gD,List.drop_eq_getElem_cons,List.take_append_drop]
 grind [pF,dO]
theorem S8 {v x:TUnit} {i:Nat} : (cC (dN i x v)).Perm (cC v++cC x):=by
 unfold dN vw;rw [gC v,pV,pF,dO,List.cons_append];grind [List.take_append_drop,pF]
end Go.Ev
namespace Go.Ev
open Go
section
variable {P : Program} {G : eg} {call : ca} {m : Nat} {c : Code} {d : D} {s s' : St} {ops : Array Oper} {h h' : AHeap} {o : AObj} {f : FuncId} {args : List AV} {v u : AV} {pl pl' : Pl} {M M' : dz} {w w' : World}
theorem ct.psh (g2:ct pl M h w):ct pl M (h.push o) w:=
 ⟨fun id p hp=>Nat.lt_succ_of_lt (g2.dom id p hp),(fun id p o' hp hg=>by
  rcases dU hg with ⟨rfl,_⟩ | ⟨_,h2⟩
  ·exact absurd (g2.dom _ p hp) (uA _)
  ·exact g2.obj id p o' hp h2),g2.blk,g2.inj,g2.imm,g2.sep⟩
theorem cW.psh (g2:ct pl M h w) (g4:cW h pl M w h' pl' M' w') (g2':ct pl' M' h' w'):cW h pl M w (h'.push o) pl' M' w':=
 ⟨g4.ext,g4.new,g4.mem,g4.size,g4.kept,g4.blks,(fun id p hp hg=>by
  have:=g4.live id p hp hg;cases hh:(h'.push o).get id with
  | none=>rfl
  | some o'=>
   rcases dU hh with ⟨rfl,_⟩ | ⟨_,h2⟩
   ·obtain ⟨p',e1,_⟩:=g4.ext _ p hp;exact absurd (g2'.dom _ p' e1) (uA _)
   simp_all),g4.stay,g4.memNew,g4.os,g4.tape,g4.out,g4.drawn⟩
theorem aB.psh (h0:aB P G f args h (fun v1 h1=>v1=v∧h1=h')) (hl:Le u v):aB P G f args h (fun v1 h1=>v1=u∧h1=h'.push o):=by
 intro pl M w vs hg hr hv;have key : ∀ {cv w'},fP pl M h w v h' cv w'→fP pl M h w u (h'.push o) cv w':=fun ⟨pl',M',k1,k2,k3,k4⟩=>⟨pl',M',hl _ _ _ k1,ct.psh k2,cW.psh hr k3 k2,Nat.le_succ_of_le k4⟩
 rcases h0 pl M w vs hg hr hv with ⟨h1,h2⟩ | ⟨cv,w',v',h'',h1,⟨rfl,rfl⟩,h3⟩
 ·exact .inl ⟨h1,Calls.mono h2 fun e w' ⟨cv,v',h'',k1,⟨k2,k2'⟩,k3⟩=>⟨cv,u,h'.push o,k1,⟨rfl,rfl⟩,by simp_all⟩⟩
 ·exact .inr ⟨cv,w',u,_,h1,⟨rfl,rfl⟩,key h3⟩
theorem JZ {Ψ Ψ':AV→AHeap→Prop} (o:AObj) (h0:aB P G f args h Ψ) (hΨ : ∀ v h',Ψ v h'→∃ u,Le u v∧Ψ' u (h'.push o)):aB P G f args h Ψ':=by
 intro pl M w vs hg hr hv;have key : ∀ {v u h' cv w'},Le u v→fP pl M h w v h' cv w'→fP pl M h w u (h'.push o) cv w':=fun hl ⟨pl',M',k1,k2,k3,k4⟩=>⟨pl',M',hl _ _ _ k1,ct.psh k2,cW.psh hr k3 k2,Nat.le_succ_of_le k4⟩
 rcases h0 pl M w vs hg hr hv with ⟨h1,h2⟩ | ⟨cv,w',v',h'',h1,h2,h3⟩
 ·refine .inl ⟨h1,Calls.mono h2 fun e w' ⟨cv,v',h'',k1,k2,k3⟩=>?_⟩;grind
 ·obtain ⟨u,q1,q2⟩:=hΨ _ _ h2;exact .inr ⟨cv,w',u,_,h1,q2,key q1 h3⟩
theorem Ox (pl:Pl) (M:dz) (p:Place) (x:Option Obj):bp pl M p .dead x:=by cases x <;> trivial
theorem aB.dead {i:Nat} {Ψ Ψ':AV→AHeap→Prop} (h0:aB P G f args h Ψ) (hi:h.n≤i) (hm:i<1000000) (hΨ : ∀ v h',Ψ v h'→Ψ' v (h'.put i .dead)):aB P G f args h Ψ':=by
 intro pl M w vs hg hr hv;have key : ∀ {v h' cv w'},fP pl M h w v h' cv w'→fP pl M h w v (h'.put i .dead) cv w':=fun ⟨pl',M',k1,k2,k3,k4⟩=>⟨pl',M',k1,⟨k2.dom,(fun id p o hp hg=>by
  rcases AHeap.get_put hm hg with ⟨_,rfl⟩ | ⟨_,h2⟩
  ·grind [Ox]
  ·exact k2.obj id p o hp h2),k2.blk,k2.inj,k2.imm,k2.sep⟩,⟨k3.ext,k3.new,k3.mem,k3.size,k3.kept,k3.blks,(fun id p hp hg=>by
   have hl:=hr.dom id p hp;have hn:=k3.live id p hp hg;cases hh:AHeap.get (AHeap.put _ i .dead) id with
   | none=>rfl
   | some o'=>grind [AHeap.get_put]),k3.stay,k3.memNew,k3.os,k3.tape,k3.out,k3.drawn⟩,k4⟩
 rcases h0 pl M w vs hg hr hv with ⟨h1,h2⟩ | ⟨cv,w',v',h'',h1,h2,h3⟩
 ·exact .inl ⟨h1,Calls.mono h2 fun e w' ⟨cv,v',h'',k1,k2,k3⟩=>⟨cv,v',h''.put i .dead,k1,hΨ _ _ k2,key k3⟩⟩
 ·exact .inr ⟨cv,w',v',_,h1,hΨ _ _ h2,key h3⟩
end
section
variable {P : Program} {G : eg} {ops : Array Oper} {o : Oper} {l : List Oper} {s : St} {b : Option Nat}
theorem vN {t tx e:TypeId} {i:TypeInfo} {sz bt:Nat} (hsz:i.size=sz) (hbt:i.bytes=bt) {z z0:AV} {sO xO:Operand} {dst:Option Tmp} {ty:TypeId} {pos:String} {after:Array Edge} {guard:Option (Nat × Bool)} {xs:List AV}
  (ht:P.underlying t=some (.slice e)) (hk : ∃ e',P.underlying tx=some (.slice e')) (hi:P.info? e=some i) (hz:iO P e=some z0) (hzl:Le z z0)
  (hs:(cG G sO).run s.tmps=some (.ps [] true)) (hx:(cG G xO).run s.tmps=some (.ls xs)) (hne:xs≠ []) (hfit:dh sz xs=true) (hzf:dh sz [z]=true) (hsm:small xs.length bt=true) (hs0:0<sz)
  (pl:Pl) (M:dz) (a:Act) (w:World) (g1:nb G pl M) (g2:ct pl M s.heap w) (g3:FrRel pl M s.tmps a) :
  ∃ (k:Nat) (pl':Pl) (M':dz) (cv:Value) (w':World),k=0∧(execOp a.eval ⟨dst, .call ⟨.builtin .append,#[sO,xO],#[t,tx]⟩,ty,pos,after,guard⟩).run P w = .ok (.value cv) w'∧
   VRel pl' M' (.slice s.heap.n 0 0 xs.length none) cv∧ct pl' M' (s.heap.push (.row sz true 0 xs)) w'∧cW s.heap pl M w (s.heap.push (.row sz true 0 xs)) pl' M' w'∧s.heap.n≤(s.heap.push (.row sz true 0 xs)).n:=by
 subst hsz;subst hbt;have hsr:=bV g1 g3 hs;have hxr:=bV g1 g3 hx;obtain ⟨news,hsrc⟩:=xh (P:=P) g2 hxr (show jT s.heap (.ls xs)=some xs from rfl) hne hfit;obtain ⟨i2,zv,hz1,hz2,hz3⟩:=lh hz;rw [hi] at hz1;cases hz1
 obtain ⟨b1,b2⟩:=jj hsm;have hpos:0<xs.length:=qw.2 hne;generalize hq:a.eval sO=cs at hsr;generalize hq2:a.eval xO=cx at hxr hsrc;cases hsr with
 | ps hl htt hm hs2 hc=>
  rename_i ad cap sz c;have hcap:cap=0:=htt rfl;subst hcap;have hzr:=hzl _ _ _ (dF (pl:=pl) (M:=M) hz3);have hzt:=lV hzf z (by simp);have hzsz:zv.cells.size=i.size:=by rw [← hzr.cells.len];omega
  have hrun:=run_append_grow_src (P:=P) w t tx ty e i zv ht hi hz2 (some ad) 0 0 [] (by simp [Builtin.firstCells,loadCells,loadCellsFrom]) cx xs.length news (hsrc.src (.inl hk)) (by omega) (by omega) (growslice_fits (by omega) (by grind));have hge:=grownCap_ge w (0+xs.length) 0 e;obtain ⟨C,hC⟩ : ∃ C,C=grownCap w (0+xs.length) 0 e:=⟨_,rfl⟩
  rw [← hC] at hrun hge;have hin:=eO hzr hzt.2 (C - (0+xs.length)) hzt.1 hs0;have hzl:(Builtin.zeroCells zv.cells (C - (0+xs.length))).toList.toArray=(Array.range ((C - (0+xs.length)) * i.size)).map (zv.cells[· % zv.cells.size]!):=by grind [Builtin.zeroCells]
  have hnl:(Builtin.zeroCells zv.cells (C - (0+xs.length))).toList.length=(List.replicate (C - (0+xs.length)) z).length * i.size:=by grind [Builtin.zeroCells]
  have hin2:=jI (news:=(Builtin.zeroCells zv.cells (C - (0+xs.length))).toList) hsrc.mem (by grind) hsrc.newsLen hnl #[];have hce:(news++(Builtin.zeroCells zv.cells (C - (0+xs.length))).toList).toArray++#[]=([]++news).toArray++Builtin.zeroCells zv.cells (C - (0+xs.length)):=by grind
  rw [hce] at hin2;have hcs:(([]++news).toArray++Builtin.zeroCells zv.cells (C - (0+xs.length))).size=(xs++List.replicate (C - (0+xs.length)) z).length * i.size:=by simp only [wR,DH,AP,hsrc.newsLen,size_zeroCells,hzsz,ka,oL,jr]
  obtain ⟨cells,hcells⟩ : ∃ cells,cells=([]++news).toArray++Builtin.zeroCells zv.cells (C - (0+xs.length)):=⟨_,rfl⟩
  rw [← hcells] at hrun hin2 hcs;have hxC:xs.length≤C:=by omega
  have hszc:cells.size=C * i.size:=by grind
  have hin3:InMem pl M cells 0 i.size xs:=⟨by rw [gK,hszc];exact fz _ hxC,fun x hx=>hin2.elem x (List.mem_append_left _ hx),fun i x j y h1 h2=>hin2.cell i x j y (by grind) h2⟩
  let p:Place:=⟨w.heap.size,0,i.size,xs.length,C * i.size⟩
  have hwd:(w.drew.alloc (.cells cells e)).heap=w.heap.push (.cells cells e):=rfl;obtain ⟨r1,r2⟩:=ct.alloc (o:= .row i.size true 0 xs) (p:=p) g2 hwd ⟨rfl,rfl,rfl,mq _⟩ rfl
   ⟨rfl,rfl,rfl,hszc.symm,rfl,hs0,fun h=>(by grind),hin3.mono (fun id q hq=>⟨q,by rw [cP (by have:=g2.dom id q hq;omega)];omega,ar _,fun _=>rfl⟩) (fun _ _ h=>h)⟩
  refine ⟨0,upd pl s.heap.n p,M, .slice (some ⟨w.heap.size,0,none⟩) (0+xs.length) C,w.drew.alloc (.cells cells e),rfl,?_,?_,r1,r2,mq _⟩
  ·simp only [execOp,resolve,invoke,builtin,Sem.run_bind,Sem.run_pure,Result.andThen_ok,List.map_toArray,ic,wM,hq,hq2];show (Sem.run P (Builtin.append_ #[t,tx] ty #[Value.slice (some ad) 0 0,cx]) w).andThen _=_
   rw [hrun];rfl
  ·rw [gK] at hge ⊢;refine .slice (dB _ _ _) (ar _) hge (fun k hk=>by grind) (fun _=>⟨.inr (by grind),by grind,by grind,(fun _=>by grind),(fun k hk=>by grind)⟩)
end
end Go.Ev
namespace Go.Ev
open Go
def Mi (s:aP):aP:=bif az (.ofNat (gD s 0).toNat) 124 then [92] else bif az (.ofNat (gD s 0).toNat) 92 then [92] else []
def AB (s:aP) (w:PWord):aP:=s++ [32]++Mi w.text++w.text
def iN (s:aP) (l:List PWord):aP:=l.foldl AB s
theorem nj (s:aP) (w:PWord) (r:List PWord):iN s (w::r)=iN (AB s w) r:=rfl
theorem Dl {x:aP} {w:PWord} (h1:az (.ofNat (gD w.text 0).toNat) 124=true):AB x w=x++ [32]++ [92]++w.text:=by grind [AB,Mi]
theorem Di {x:aP} {w:PWord} (h1:az (.ofNat (gD w.text 0).toNat) 124=false) (h2:az (.ofNat (gD w.text 0).toNat) 92=true):AB x w=x++ [32]++ [92]++w.text:=by grind [AB,Mi]
theorem Dh {x:aP} {w:PWord} (h1:az (.ofNat (gD w.text 0).toNat) 124=false) (h2:az (.ofNat (gD w.text 0).toNat) 92=false):AB x w=x++ [32]++w.text:=by grind [AB,Mi]
theorem U9 (d:Nat):ao (.ofNat d) 0=false:=rfl
def rI (u:TUnit):TUnit:=⟨0,0,0,u.kind,u.label,u.head,u.words, []⟩
def yx (u:TUnit) (d:Nat):Bool:=aV (ao (.ofNat d) 0) && (aV (ao 8 (.ofNat d)) && jz (cY (rI u)))
def ej (u:TUnit) (d:Nat):aP:=
 bif aV (yx u d) then [] else
  let a:=Lib.repeatL [32,32] d++dZ u.kind
  let b:=bif aV (az u.kind 0) then a++([32]++u.label) else a
  let c:=bif ao 0 (.ofNat u.head.length) then iN (b++ [58]) u.head else b
  bif ao 0 (.ofNat u.words.length) then iN (c++ [32,124]) u.words else c
mutual
def dI:Nat→TUnit→List aP
 | d,⟨a,i,n,k,l,h,w,ks⟩=>ej ⟨a,i,n,k,l,h,w,ks⟩ d::cn (d+1) ks
def cn:Nat→List TUnit→List aP
 | _, []=> []
 | d,k::r=>dI d k++cn d r
end
theorem Bt (d:Nat) (u:TUnit):dI d u=ej u d::cn (d+1) u.kids:=by cases u;rw [dI];rfl
theorem vY (d:Nat):cn d [] = []:=by rw [cn]
theorem lW (d:Nat) (k:TUnit) (r:List TUnit):cn d (k::r)=dI d k++cn d r:=by rw [cn]
def wV (u:TUnit):aP × Int:=
 bif aV (jz (cY u)) then ([],1) else
  bif ao 16384 (.ofNat (Lib.join (dI 0 u) [10]++ [10]).length) then ([],6) else (Lib.join (dI 0 u) [10]++ [10],0)
theorem Qa (s:aP):(Mi s).length≤1:=by grind [Mi]
theorem Rb (s:aP) (w:PWord):(AB s w).length≤s.length+(w.text.length+2):=by grind [Qa,AB]
theorem tV {l:List PWord} (h : ∀ w,w∈l→w.text.length≤24) (s:aP):(iN s l).length≤s.length+26 * l.length:=by
 induction l generalizing s with
 | nil=>exact ar _
 | cons w r ih=>grind [Rb,nj]
theorem yh (k:Int):(dZ k).length≤16:=by
 unfold dZ;split <;> decide
theorem fM {a b:Int} (h:aV (ao a b)=true):b≤a:=av (by cases q:ao a b <;> rw [q] at h <;> first | rfl | grind)
theorem H7 {s:aP} (h:fu s=true):s.length≤7:=by
 unfold fu at h;simp only [ba] at h;have h1:=fM h.2.1;have h2:=fM h.2.2.2.1;grind
theorem K6 {s:aP} (h:gh s=true):1≤s.length∧s.length≤24:=by
 unfold gh at h;simp only [ba] at h;have h1:=fM h.1;have h2:=fM h.2.1;grind
theorem HW {l:List PWord} (h:fm l=true):l.length≤256∧∀ w,w∈l→1≤w.text.length∧w.text.length≤24:=by
 unfold fm lX at h;simp only [ba,jp] at h;have h1:=fM h.1;simp only [bI] at h1;exact ⟨by omega,fun w hw=>K6 (h.2.2 _ (ky.2 ⟨w,hw,rfl⟩))⟩
theorem NX {u:TUnit} (h:kK u=true):u.label.length≤7∧(u.head.length≤256∧∀ w,w∈u.head→1≤w.text.length∧w.text.length≤24)∧(u.words.length≤256∧∀ w,w∈u.words→1≤w.text.length∧w.text.length≤24):=by
 unfold kK at h;simp only [ba] at h;have h:=h.1;cases hk:az u.kind 0 with
 | true=>
  rw [hk] at h;simp only [cond_true,ba] at h;have h1:u.label = []:=GX h.1;have h2:=fM h.2;grind
 | false=>grind [H7,HW]
theorem N7 {q:TUnit→Bool} {u:TUnit} (h:tJ q u=true):q u=true:=by grind [wI]
theorem J3 {u:TUnit} {d:Nat} (h:yx u d=true):d≤8∧u.label.length≤7∧(u.head.length≤256∧∀ w,w∈u.head→1≤w.text.length∧w.text.length≤24)∧(u.words.length≤256∧∀ w,w∈u.words→1≤w.text.length∧w.text.length≤24):=by
 unfold yx jz at h;simp only [ba] at h;have h1:=fM h.2.1;simp only [bI] at h1;have h2:=NX (N7 h.2.2.1);rw [lU] at h2;obtain ⟨e1,⟨e2,e3⟩,e4,e5⟩:=h2;refine ⟨by omega,e1,⟨by grind [rI,TUnit.head],fun w hw=>?_⟩,⟨by grind [rI,TUnit.words],fun w hw=>?_⟩⟩
 ·exact e3 (dE w) (ky.2 ⟨w,hw,rfl⟩)
 ·exact e5 (dE w) (ky.2 ⟨w,hw,rfl⟩)
theorem Db {b:Bool} {x y:aP} {n:Nat} (h1:x.length≤n) (h2:y.length≤n):(bif b then x else y).length≤n:=by grind
theorem PK (u:TUnit) (d:Nat):(ej u d).length≤2 ^ 14:=by
 unfold ej;cases h:yx u d with
 | false=>simp_all
 | true=>
  obtain ⟨h1,h2,⟨h3,h4⟩,h5,h6⟩:=J3 h;have k:=yh u.kind;have r:=Lib.repeatL_length [32,32] d;simp only [fg,oh] at r;have ha:(Lib.repeatL [32,32] d++dZ u.kind).length≤32:=by grind
  have hh : ∀ w,w∈u.head→w.text.length≤24:=fun w hw=>(h4 w hw).2
  have hw : ∀ w,w∈u.words→w.text.length≤24:=fun w hw=>(h6 w hw).2
  simp only [aV,cond_false];have hb : ∀ x:aP,x.length≤32→(bif aV (az u.kind 0) then x++([32]++u.label) else x).length≤40:=fun x hx=>Db (by grind) (by omega)
  have hc : ∀ x:aP,x.length≤40→(bif ao 0 (.ofNat u.head.length) then iN (x++ [58]) u.head else x).length≤6700:=fun x hx=>Db (by grind [tV]) (by omega)
  have hd : ∀ x:aP,x.length≤6700→(bif ao 0 (.ofNat u.words.length) then iN (x++ [32,124]) u.words else x).length≤2 ^ 14:=fun x hx=>Db (by have:=tV hw (x++ [32,124]);grind) (by omega)
  grind
mutual
theorem j8 (d:Nat) : ∀ u:TUnit,(dI d u).length=nU u
 | ⟨a,i,n,k,l,h,w,ks⟩=>by rw [dI,fg,vq (d+1) ks,nU];omega
theorem vq (d:Nat) : ∀ l:List TUnit,(cn d l).length=cV l
 | []=>by rw [cn,cV];rfl
 | k::r=>by rw [cn,cV,ka,j8 d k,vq d r]
end
mutual
theorem ye (d:Nat) : ∀ (u:TUnit) (s:aP),s∈dI d u→s.length≤2 ^ 14
 | ⟨a,i,n,k,l,h,w,ks⟩,s,hs=>by
  rw [dI] at hs;rcases gx.1 hs with rfl | hs
  ·exact PK _ _
  ·exact vU (d+1) ks s hs
theorem vU (d:Nat) : ∀ (l:List TUnit) (s:aP),s∈cn d l→s.length≤2 ^ 14
 | [],s,hs=>by rw [cn] at hs;cases hs
 | k::r,s,hs=>by
  rw [cn] at hs;rcases kO.1 hs with hs | hs
  ·exact ye d k s hs
  ·exact vU d r s hs
end
theorem sf {sep:aP} {B:Nat} : ∀ {l:List aP},(∀ s,s∈l→s.length≤B)→(Lib.joinTail sep l).length≤l.length * (sep.length+B)
 | [],_=>bN _
 | x::r,h=>by
  have h1:=h x og;have h2:=sf (sep:=sep) (l:=r) fun s hs=>h s (kw _ hs)
  grind [Lib.joinTail,Nat.succ_mul]
theorem Pw {sep:aP} {B:Nat} {l:List aP} (h : ∀ s,s∈l→s.length≤B):(Lib.join l sep).length≤l.length * (sep.length+B):=by
 cases l with
 | nil=>exact bN _
 | cons x r=>
  have h1:=h x og;have h2:=sf (sep:=sep) (l:=r) fun s hs=>h s (kw _ hs)
  grind [Lib.join_cons,Nat.succ_mul]
theorem uR : ∀ (l:List TUnit),(∀ k,k∈l→nU (cY k)=nU k∧∀ x,x∈bB (cY k)→∃ y,y∈bB k∧x=cY y)→cV (l.map cY)=cV l∧∀ x,x∈dQ (l.map cY)→∃ y,y∈dQ l∧x=cY y
 | [],_=>⟨rfl,fun x hx=>by grind [fG]⟩
 | k::r,h=>by
  obtain ⟨a1,a2⟩:=h k og;obtain ⟨b1,b2⟩:=uR r fun k hk=>h k (kw _ hk)
  grind [cV,bT]
theorem Lq : ∀ u:TUnit,nU (cY u)=nU u∧∀ x,x∈bB (cY u)→∃ y,y∈bB u∧x=cY y:=by
 refine TUnit.ind fun u ih=>?_
 obtain ⟨h1,h2⟩:=uR u.kids ih;refine ⟨?_,fun x hx=>?_⟩
 ·rw [iz (cY u),iz u,lU];exact congrArg (1 + ·) h1
 ·rw [dx,lU] at hx;rcases gx.1 hx with rfl | hx
  ·grind [dx,List.mem_cons_self,lU]
  ·obtain ⟨y,h3,h4⟩:=h2 x hx;grind [dx]
end Go.Ev
namespace Go.Ev
open Go
structure OkB (u:TUnit):Prop where
 nd:(cC u).Nodup
 n:nU u≤1024
 w : ∀ x,x∈bB u→x.head.length≤300∧x.words.length≤300
theorem OkB.uni {u v x:TUnit} (h:OkB u) (hv:v∈bB u) (hx:x∈bB u) (e:al v=al x):v=x:=Bl h.nd hv hx e
theorem C0 {u x:TUnit} (hx:x∈bB u):cb (al x) u=true:=Kv u ⟨x,hx,rfl⟩
theorem lx : ∀ {l:List TUnit} {x:TUnit},x∈dQ l→∃ k,k∈l∧x∈bB k
 | [],x,h=>by grind [fG]
 | k::r,x,h=>by
  rw [bT] at h;rcases kO.1 h with h | h
  ·simp_all
  ·obtain ⟨k',h1,h2⟩:=lx h;grind
theorem BW {u:TUnit} : ∀ (p:List PStep) (l:List TUnit),(∀ x,x∈l→x∈bB u)→∀ x,x∈eM p l→x∈bB u
 | [],l,h,x,hx=>h x hx
 | s::r,l,h,x,hx=>by
  refine BW r _ (fun y hy=>?_) x hx;grind [iH,bC,dJ]
theorem MZ {u:TUnit} {p:List PStep} {x:TUnit} (h:x∈dV u p):x∈bB u:=by
 unfold dV at h;grind [dJ,BW]
theorem pj {u:TUnit} {p:List PStep} (h:(aG u p).2=0):cb (aG u p).1 u=true:=by
 unfold aG at h ⊢;split at h
 ·omega
 ·rename_i x e;exact C0 (MZ (by rw [e];simp_all))
 omega
def DB (u:TUnit) (sp:PSpot):Prop:=∃ n:Nat,sp.at_=Int.ofNat n∧n≤2 ^ 20∧∀ v,v∈bB u→gQ sp.id v=true→n≤v.kids.length
theorem Ot {u:TUnit} (hu:OkB u) {p:PId} (h:jY p u=true) {n:Nat} (hn:n≤1):DB u ⟨qL p u,nM p u+Int.ofNat n⟩:=by
 obtain ⟨q,i,h1,h2,h3,h4,h5⟩:=tL u h;have hk:=bq q;have:=dD h1;have:=hu.n;refine ⟨i+n,by simp_all,by omega,fun v hv hi=>?_⟩;have hi:gQ (qL p u) v=true:=hi;rw [gw,h2] at hi;rw [hu.uni hv h1 hi];omega
theorem FX {u:TUnit} (hu:OkB u) {p:PId} (hp:cb p u=true) {w:Int} (he:(dj w u p).2=0):DB u (dj w u p).1:=by
 unfold dj at he ⊢;cases h0:az w 0 with
 | true=>exact ⟨0,rfl,bN _,fun v _ _=>bN _⟩
 | false=>
  rw [h0] at he;simp only [cond_false] at he ⊢;cases h1:az w 1 with
  | true=>
   obtain ⟨a,b⟩:=tH hp;have hk:=bq (eW p u);have:=dD a;have:=hu.n;refine ⟨_,rfl,by omega,fun v hv hi=>?_⟩;rw [gw] at hi;rw [hu.uni hv a (hi.trans b.symm)];omega
  | false=>
   rw [h1] at he;simp only [cond_false] at he ⊢;have key : ∀ n:Nat,n≤1→(mi u p (Int.ofNat n)).2=0→DB u (mi u p (Int.ofNat n)).1:=fun n hn he=>by grind [mi,Ot]
   cases h2:az w 2 with
   | true=>grind
   | false=>rw [h2] at he;exact key 0 (bN _) he
theorem OkB.with {u:TUnit} (hu:OkB u) {q:PId} {f:TUnit→TUnit}
  (hf : ∀ v C,v∈bB u→al v=q→(cC u).Perm (C++cC v)→(C++cC (f v)).Nodup∧(C++cC (f v)).length≤1024∧∀ x,x∈bB (f v)→x.head.length≤300∧x.words.length≤300):OkB (dq q f u):=by
 cases hq:cb q u with
 | false=>grind [HK]
 | true=>
  obtain ⟨v,C,h1,h2,h3,h4⟩:=qp u hq;obtain ⟨h5,h6⟩:=h4 f;obtain ⟨a,b,c⟩:=hf v C h1 h2 h3;refine ⟨h5.nodup_iff.2 a,by rw [jv,h5.length_eq];omega,fun x hx=>?_⟩;grind [cases OkB]
theorem OkB.keep {u:TUnit} (hu:OkB u) {q:PId} {f:TUnit→TUnit} (h1 : ∀ v,al (f v)=al v∧(f v).kids=v.kids) (h2 : ∀ v,v∈bB u→(f v).head.length≤300∧(f v).words.length≤300):OkB (dq q f u):=by
 refine hu.with fun v C hv hq hp=>?_
 have e:cC (f v)=cC v:=by grind [gC]
 rw [e];refine ⟨hp.nodup_iff.1 hu.nd,by rw [← hp.length_eq,← jv];exact hu.n,fun x hx=>?_⟩;rw [dx] at hx;rcases gx.1 hx with rfl | hx
 ·simp_all
 ·rw [(h1 v).2] at hx;obtain ⟨k,k1,k2⟩:=lx hx;grind [iH,bC,cases OkB]
theorem SY {v x y:TUnit} {i:Nat} (h:y∈bB (dN i x v)):y=dN i x v∨y∈bB x∨y∈bB v:=by
 rw [dx] at h;rcases gx.1 h with rfl | h
 ·simp_all
 ·obtain ⟨k,k1,k2⟩:=lx h;have k1:k∈v.kids.take i++(x::v.kids.drop i):=k1;rcases kO.1 k1 with q | q
  ·grind [bC]
  ·grind [bC]
theorem OkB.ins {u x:TUnit} (hu:OkB u) {q:PId} {i:Nat} (hx:(cC x).Nodup) (hd : ∀ p,p∈cC x→p ∉ cC u) (hn:nU u+nU x≤1024) (hw : ∀ y,y∈bB x→y.head.length≤300∧y.words.length≤300):OkB (dq q (dN i x) u):=by
 refine hu.with fun v C hv hq hp=>?_
 have h1:(C++cC (dN i x v)).Perm (cC u++cC x):=((List.Perm.append_left C S8).trans (by grind))
 refine ⟨h1.nodup_iff.2 (List.nodup_append.2 ⟨hu.nd,hx,fun a ha b hb e=>hd b hb (e ▸ ha)⟩),by rw [h1.length_eq,ka,← jv,← jv];omega,fun y hy=>?_⟩;rcases SY hy with rfl | h | h
 ·exact hu.w v hv
 all_goals grind [iH,cases OkB]
theorem JG {v y:TUnit} {i:Nat} (h:y∈bB (iK i v)):y=iK i v∨y∈bB v:=by
 rw [dx] at h;rcases gx.1 h with rfl | h
 ·simp_all
 ·obtain ⟨k,k1,k2⟩:=lx h;exact .inr (bC (List.mem_of_mem_eraseIdx (show k∈v.kids.eraseIdx i from k1)) k2)
theorem OkB.del {u v:TUnit} (hu:OkB u) {i:Nat} (hv:v∈bB u) (hi:i<v.kids.length):OkB (dq (al v) (iK i) u)∧(cC u).Perm (cC (dq (al v) (iK i) u)++cC (gD v.kids i)):=by
 obtain ⟨v',C,h1,h2,h3,h4⟩:=qp u (C0 hv);obtain rfl:=hu.uni h1 hv h2;obtain ⟨h5,h6⟩:=h4 (iK i);have h7:(cC u).Perm (cC (dq (al v') (iK i) u)++cC (gD v'.kids i)):=h3.trans ((List.Perm.append_left C (S9 hi)).trans (by grind));have hnd:=h7.nodup_iff.1 hu.nd;refine ⟨⟨(List.nodup_append.1 hnd).1,?_,fun x hx=>?_⟩,h7⟩
 ·have:=h7.length_eq;grind [jv,cases OkB]
 ·rcases h6 x hx with h | ⟨y,y1,y2,y3,y4,y5⟩
  ·rcases JG h with rfl | h
   ·exact hu.w v' hv
   grind [iH,cases OkB]
  grind [cases OkB]
theorem Ni {q:PId} {f:TUnit→TUnit} : ∀ u:TUnit,cb q u=true→∃ v,v∈bB u∧al v=q∧f v∈bB (dq q f u):=by
 refine TUnit.ind fun u ih h=>?_
 cases hi:gQ q u with
 | true=>grind [dJ,gw,tj]
 | false=>
  rw [ni hi];have key : ∀ r:List TUnit,(∀ k,k∈r→k∈u.kids)→(∃ k,k∈r∧cb q k=true)→∃ v,v∈dQ r∧al v=q∧f v∈dQ (ed q f r):=by
   intro r;induction r with
   | nil=>grind
   | cons k r ihr=>
    intro hs ⟨y,hy,hyq⟩;rw [jb,bT];cases hk:cb q k with
    | true=>grind [bT]
    | false=>
     rcases gx.1 hy with rfl | hy
     ·grind
     ·obtain ⟨v,a,b,c⟩:=ihr (fun k hk=>hs k (kw _ hk)) ⟨y,hy,hyq⟩;grind [bT]
  have hx:=tH h;have hne:eW q u≠u:=fun e=>by grind [gw]
  have hm:eW q u∈dQ u.kids:=by grind [dx]
  obtain ⟨k,k1,k2⟩:=lx hm;obtain ⟨v,a,b,c⟩:=key u.kids (fun _ h=>h) ⟨k,k1,Kv k ⟨_,k2,hx.2⟩⟩;grind [dx,u0]
theorem PP {u q:TUnit} (hu:OkB u) {i:Nat} (hq:q∈bB u) (hi:i<q.kids.length) {p t:PId} {w:Int} {anc bs:Bool} (ht:cb t u=true) {ok:Bool}
  (he:(jR p t (al q) (Int.ofNat i) ok anc bs (dj w u t).1 (dj w u t).2).2=0) :
  DB (dq (al q) (iK i) u) (jR p t (al q) (Int.ofNat i) ok anc bs (dj w u t).1 (dj w u t).2).1:=by
 obtain ⟨hr,_⟩:=hu.del hq hi;obtain ⟨v',C,h1,h2,h3,h4⟩:=qp u (C0 hq);obtain rfl:=hu.uni h1 hq h2;obtain ⟨_,h6⟩:=h4 (iK i);have hlen:(iK i v').kids.length=v'.kids.length - 1:=List.length_eraseIdx_of_lt hi;have own : ∀ v,v∈bB (dq (al v') (iK i) u)→al v=al v'→v.kids.length=v'.kids.length - 1:=fun v hv e=>by
  obtain ⟨z,z1,z2,z3⟩:=Ni (q:=al v') (f:=iK i) u (C0 hq);obtain rfl:=hu.uni z1 hq z2;rw [hr.uni hv z3 (e.trans rfl)];omega
 have oth : ∀ v,v∈bB (dq (al v') (iK i) u)→al v≠al v'→∃ y,y∈bB u∧al v=al y∧v.kids.length=y.kids.length:=fun v hv hne=>by
  rcases h6 v hv with h | ⟨y,y1,y2,y3,_⟩
  ·rcases JG h with rfl | h
   ·exact absurd rfl hne
   ·exact ⟨v,iH hq h,rfl,rfl⟩
  grind
 have hk:=bq v';have hb:=dD hq;have hn:=hu.n;unfold jR at he ⊢;cases c1:(aV ok || ((aV (aM t p) && anc) || (aM t p && aV bs))) with
 | true=>grind
 | false=>
  rw [c1] at he;simp only [cond_false] at he ⊢;cases c2:aM t p with
  | true=>
   refine ⟨i,rfl,by omega,fun v hv hid=>?_⟩;grind [gw]
  | false=>
   rw [c2] at he;simp only [cond_false] at he ⊢;have e0:(dj w u t).2=0:=by grind
   obtain ⟨n,n1,n2,n3⟩:=FX hu ht e0;rw [e0,n1];cases c4:aM (dj w u t).1.id (al v') with
   | false=>
    have hne:(dj w u t).1.id≠al v':=fun e=>by grind [jy]
    rw [show (az 0 0 && (false && ao (Int.ofNat i) (Int.ofNat n)))=false from rfl];refine ⟨n,n1,n2,fun v hv hid=>?_⟩;grind [gw]
   | true=>
    have heq:=sC c4;have hn':=n3 v' hq ((gw _ v').2 heq.symm);cases c5:ao (Int.ofNat i) (Int.ofNat n) with
    | true=>
     have c5:=aJ c5;simp only [bI] at c5;rw [show (az 0 0 && (true && true))=true from rfl];refine ⟨n - 1,by grind,by omega,fun v hv hid=>?_⟩;grind [gw]
    | false=>
     have c5:=av c5;simp only [bI] at c5;rw [show (az 0 0 && (true && false))=false from rfl];refine ⟨n,n1,n2,fun v hv hid=>?_⟩;grind [gw]
def xf (a i:Int) (n k:Nat):List PId:=(List.range' (n+1) k).map fun j=>⟨a,i,Int.ofNat j⟩
mutual
theorem tc (a i:Int) : ∀ (u:TUnit) (n w:Nat),cC (cT a i u n w)=xf a i n (nU u)
 | ⟨a',i',n',k,l,h,ws,ks⟩,n,w=>by
  rw [gC,cT,nU];show _::bz (fZ a i ks (n+1) _)=_
  rw [xe a i ks (n+1)];unfold xf;rw [Nat.add_comm 1 (cV ks),wP,ic];rfl
theorem xe (a i:Int) : ∀ (l:List TUnit) (n w:Nat),bz (fZ a i l n w)=xf a i n (cV l)
 | [],n,w=>by rw [fZ,cV,j9];rfl
 | k::r,n,w=>by
  rw [fZ,cV,dO,tc a i k n w,xe a i r (n+nU k)];unfold xf;rw [← mB,show n+nU k+1=n+1+nU k by omega,← List.range'_append_1]
end
theorem NS (a i:Int) (n k:Nat):(xf a i n k).Nodup:=by
 unfold xf;exact List.Pairwise.map _ (fun x y hne e=>hne (Int.ofNat.inj (congrArg PId.n e))) List.nodup_range'
mutual
theorem Jg (a i:Int) (B:Nat) : ∀ (u:TUnit) (n w:Nat),(∀ x,x∈bB u→x.head.length≤B∧x.words.length≤B)→∀ x,x∈bB (cT a i u n w)→x.head.length≤B∧x.words.length≤B
 | ⟨a',i',n',k,l,h,ws,ks⟩,n,w,hB,x,hx=>by
  rw [cT,bB] at hx;rcases gx.1 hx with rfl | hx
  ·have:=hB _ (by rw [bB];exact og);exact ⟨by show (cK _ _ _ _).length≤B;rw [fH,bW,eZ];exact this.1,by show (cK _ _ _ _).length≤B;rw [fH,bW,eZ];exact this.2⟩
  ·exact Ew a i B ks _ _ (fun y hy=>hB y (by rw [bB];exact kw _ hy)) x hx
theorem Ew (a i:Int) (B:Nat) : ∀ (l:List TUnit) (n w:Nat),(∀ x,x∈dQ l→x.head.length≤B∧x.words.length≤B)→∀ x,x∈dQ (fZ a i l n w)→x.head.length≤B∧x.words.length≤B
 | [],n,w,hB,x,hx=>by rw [fZ,dQ] at hx;cases hx
 | k::r,n,w,hB,x,hx=>by
  rw [fZ,dQ] at hx;rcases kO.1 hx with hx | hx
  ·exact Jg a i B k _ _ (fun y hy=>hB y (by rw [dQ];exact List.mem_append_left _ hy)) x hx
  ·exact Ew a i B r _ _ (fun y hy=>hB y (by rw [dQ];exact List.mem_append_right _ hy)) x hx
end
theorem NP (a i:Int) (u:TUnit) (n w:Nat):nU (cT a i u n w)=nU u:=by grind [jv,tc,xf]
end Go.Ev
namespace Go.Ev
open Go
def jG (p k:Int):Bool:=bif az p 0 then az k 1 || az k 2 else bif az p 1 then az k 2 else bif az p 2 || az p 3 then az k 3 || (az k 4 || az k 7) else bif az p 4 then az k 5 else bif az p 5 then az k 6 else false
theorem O6 {p k:Int} (h:jG p k=true):k≠0:=by
 rintro rfl
 simp_all [az,jG]
def mQ (u:TUnit):Bool:=aV (ao u.kind 0) && (aV (ao 7 u.kind) && (aV (ao 64 (.ofNat u.kids.length)) && (fm u.head && (fm u.words &&
 (bif az u.kind 0 then dS u.label [] && (az (.ofNat u.head.length) 0 && az (.ofNat u.words.length) 0) else fu u.label)))))
def iX (k d:TUnit):Bool:=az d.kind k.kind && dS d.label k.label
mutual
def kH:TUnit→Bool
 | ⟨a,i,n,k,l,h,w,ks⟩=>mQ ⟨a,i,n,k,l,h,w,ks⟩ && c9 k [] ks
def c9 (pk:Int):List TUnit→List TUnit→Bool
 | _, []=>true
 | done,k::r=>jG pk k.kind && (kH k && (aV (done.any (iX k)) && c9 pk (done++ [k]) r))
end
theorem Bj (u:TUnit):kH u=(mQ u && c9 u.kind [] u.kids):=by cases u;rw [kH];rfl
theorem Es (pk:Int) (done:List TUnit):c9 pk done []=true:=by rw [c9]
theorem jB (pk:Int) (done:List TUnit) (k:TUnit) (r:List TUnit):c9 pk done (k::r)=(jG pk k.kind && (kH k && (aV (done.any (iX k)) && c9 pk (done++ [k]) r))):=by rw [c9]
mutual
def de:TUnit→Bool
 | ⟨a,i,n,k,l,h,w,ks⟩=>aV (aV (az k 0) && (az a 0 && (az i 0 && az n 0))) && sY ks
def sY:List TUnit→Bool
 | []=>true
 | k::r=>de k && sY r
end
theorem yY : ∀ l:List TUnit,sY l=l.all de
 | []=>by rw [sY];rfl
 | k::r=>by rw [sY,yY r];rfl
theorem uW (u:TUnit):de u=(aV (aV (az u.kind 0) && (az u.act 0 && (az u.item 0 && az u.n 0))) && u.kids.all de):=by cases u;rw [de,yY];rfl
def yl (p:PId):Bool:=az p.a 0 && (az p.i 0 && az p.n 0)
def mb:List PId→List PId→Bool
 | _, []=>true
 | done,p::r=>aV (done.any fun q=>aM q p) && mb (done++ [p]) r
def PD (u:TUnit):Bool:=(cC u).all yl || ((yl (al u) == az u.kind 0) && mb [] (cC u))
def H0 (u:TUnit):Bool:=kH u && (aV (ao 8 (.ofNat (fD u))) && (aV (ao 1024 (.ofNat (nU u))) && PD u))
def mj (u:TUnit):Bool:=H0 u && de u
theorem yX : ∀ (l done:List PId),done.Nodup→mb done l=true→(done++l).Nodup
 | [],done,h,_=>by simp_all
 | p::r,done,h,hg=>by
  unfold mb at hg;rw [ba] at hg;have hn : ∀ q,q∈done→q≠p:=fun q hq e=>by grind [jy]
  have h2:(done++ [p]).Nodup:=List.nodup_append.2 ⟨h,(by simp),fun a ha b hb e=>hn a ha (e.trans (oI.1 hb))⟩;have:=yX r (done++ [p]) h2 hg.2;simp_all
theorem rP {pk:Int} : ∀ {l done:List TUnit},c9 pk done l=true→∀ k,k∈l→k.kind≠0
 | k::r,done,h,x,hx=>by
  rw [jB] at h;simp only [ba] at h;rcases gx.1 hx with rfl | hx
  ·exact O6 h.1
  ·exact rP h.2.2.2 x hx
theorem Lj {u:TUnit} (h:mj u=true):(cC u).Nodup:=by
 unfold mj H0 at h;simp only [ba] at h;obtain ⟨⟨h1,_,_,h4⟩,h5⟩:=h;unfold PD at h4;rcases Bool.or_eq_true_iff.1 h4 with hz | hz
 ·rw [Bj,ba] at h1;rw [uW,ba] at h5;have hk:u.kids = []:=by
   cases e:u.kids with
   | nil=>rfl
   | cons k r=>
    exfalso;have hm:k∈u.kids:=by simp_all
    have q1:=rP h1.2 k hm;have q2:=jp.1 h5.2 k hm;have q3:=jp.1 hz (al k) (ky.2 ⟨k,CN hm,rfl⟩);have q3:(az k.act 0 && (az k.item 0 && az k.n 0))=true:=q3;grind [uW,eJ]
  grind [gC,j9]
 ·rw [ba] at hz;have:=yX (cC u) [] List.nodup_nil hz.2;simp_all
end Go.Ev
