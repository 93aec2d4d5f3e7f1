/- An abstract machine for runs of the program, proved sound against the model: part 4. No conditions. -/
import Derived.Test.YtdhkhecalpkngaaGreatDoorMach3
import Derived.OpenShut
import Derived.ChangeArms
import Derived.ProofKit
import Derived.LaidMore
import Derived.IntWalk
namespace Go.Ev
open Go
def Wh(b:Option Nat)(h0:AHeap)(pl0:Pl):Prop:=∀m,b=some m->h0.n=m/\∀id p,pl0 id=some p->id<m
def TN(P:Program)(pl:Pl)(M:dT)(h:AHeap)(w:World)(f:FuncId)(vs:Array Value)(Ψ:AV->AHeap->Prop):Prop:=
 ((callFunc f vs).run P w=.ok (.enter f vs) w/\Calls P f vs w fun e w'=>∃cv v h',e=.returned cv/\Ψ v h'/\iD pl M h w v h' cv w')\/
 (∃cv w' v h',(callFunc f vs).run P w=.ok (.value cv) w'/\Ψ v h'/\iD pl M h w v h' cv w')
def aN(P:Program)(G:fy)(f:FuncId)(args:List AV)(h:AHeap)(Ψ:AV->AHeap->Prop):Prop:=∀(pl:Pl)(M:dT)(w:World)(vs:Array Value),qr G pl M->cN pl M h w->VRels pl M args vs->TN P pl M h w f vs Ψ
def ar(P:Program)(G:fy)(b:Option Nat)(c:Code)(s:St)(Φ:AExit->St->Prop):Prop:=
 ∀(N:Nat)(h0:AHeap)(pl0:Pl)(M0:dT)(w0:World)(a:Act)(w:World)(Q:Exit->Act->World->Prop),Wh b h0 pl0->SNow G N h0 pl0 M0 w0 s a w->
  (∀e s' a1 w1,Φ e s'->SNow G N h0 pl0 M0 w0 s' a1 w1->Q (wZ e) a1 w1)->c.wp P Q a w
def cH(P:Program)(G:fy)(b:Option Nat)(ops:Array Oper)(l:List Oper)(s:St)(Φ:St->Prop):Prop:=
 ∀(i:Nat)(N:Nat)(h0:AHeap)(pl0:Pl)(M0:dT)(w0:World)(a:Act)(w:World)(Q:Exit->Act->World->Prop),Wh b h0 pl0->(∀j,ops[i+j]?=l[j]?)->SNow G N h0 pl0 M0 w0 s a w->
  (∀s' a1 w1,Φ s'->SNow G N h0 pl0 M0 w0 s' a1 w1->Q .normal a1 w1)->wpOps P ops Q (List.range' i l.length) a w
def Aa:cA:=fun _ _ _=>none
section
variable{P:Program}{G:fy}{b:Option Nat}{ops:Array Oper}{l:List Oper}{o:Oper}{s s':St}{h h':AHeap}{v:AV}{A A':Fr}{call:cA}{f:FuncId}{args:List AV}{c d:Code}
theorem DY:cL P G Aa:=fun _ _ _ _ _ h=>by grind[Aa]
theorem aN.mono{Ψ Ψ':AV->AHeap->Prop}(hh:aN P G f args h Ψ)(hi:∀v h',Ψ v h'->Ψ' v h'):aN P G f args h Ψ':=by
 intro pl M w vs hg hr hv;rcases hh pl M w vs hg hr hv with⟨h1,h2⟩|⟨cv,w',v,h',h1,h2,h3⟩
 ·exact .inl ⟨h1,Calls.mono h2 fun e w' ⟨cv,v,h',k1,k2,k3⟩=>⟨cv,v,h',k1,hi v h' k2,k3⟩⟩
 ·exact .inr ⟨cv,w',v,h',h1,hi v h' h2,h3⟩
theorem aN.of(hc:cL P G call)(e:call f args h=some (v,h')):aN P G f args h (fun v1 h1=>v1=v/\h1=h'):=by
 intro pl M w vs hg hr hv;rcases hc f args h v h' e pl M w vs hg hr hv with⟨h1,h2⟩|⟨cv,w',h1,h2⟩
 ·exact .inl ⟨h1,Calls.mono h2 fun e w' ⟨cv,k1,k2⟩=>⟨cv,v,h',k1,⟨rfl,rfl⟩,k2⟩⟩
 ·exact .inr ⟨cv,w',v,h',h1,⟨rfl,rfl⟩,h2⟩
theorem ar.mono{Φ Φ':AExit->St->Prop}(hh:ar P G b c s Φ)(hi:∀e s',Φ e s'->Φ' e s'):ar P G b c s Φ':=fun N h0 pl0 M0 w0 a w Q hb hs hQ=>hh N h0 pl0 M0 w0 a w Q hb hs fun e s' a1 w1 h1 h2=>hQ e s' a1 w1 (hi e s' h1) h2
theorem ar.skip{Φ:AExit->St->Prop}(h:Φ .normal s):ar P G b .skip s Φ:=fun _ _ _ _ _ a w _ _ hs hQ=>wp_skip (hQ .normal s a w h hs)
theorem ar.label{Φ:AExit->St->Prop}{x}(h:Φ .normal s):ar P G b (.label x) s Φ:=fun _ _ _ _ _ a w _ _ hs hQ=>wp_label (hQ .normal s a w h hs)
theorem ar.exit{Φ:AExit->St->Prop}{id:Nat}(h:Φ (.exit id) s):ar P G b (.exit id) s Φ:=fun _ _ _ _ _ a w _ _ hs hQ=>wp_exit (hQ (.exit id) s a w h hs)
theorem ar.ret{Φ:AExit->St->Prop}(h:Φ .ret s):ar P G b .ret s Φ:=fun _ _ _ _ _ a w _ _ hs hQ=>wp_ret (hQ .ret s a w h hs)
def abA(P:Program)(G:fy)(b:Option Nat)(d:Code)(Φ:AExit->St->Prop):AExit->St->Prop
 | .normal,s=>ar P G b d s Φ
 |e,s=>Φ e s
theorem ar.seq{Φ:AExit->St->Prop}(h:ar P G b c s (abA P G b d Φ)):ar P G b (.seq c d) s Φ:=by
 intro N h0 pl0 M0 w0 a w Q hb hs hQ;refine wp_seq (h N h0 pl0 M0 w0 a w _ hb hs fun e s' a1 w1 h1 h2=>?_);cases e with
 |normal=>exact h1 N h0 pl0 M0 w0 a1 w1 Q hb h2 hQ
 |exit id=>exact hQ (.exit id) s' a1 w1 h1 h2
 |ret=>exact hQ .ret s' a1 w1 h1 h2
theorem ar.cond{Φ:AExit->St->Prop}{x:Operand}{t:Bool}(hx:(cE G x).run s.tmps=some (.bool t))(h1:t=true->ar P G b c s Φ)(h2:t=false->ar P G b d s Φ):ar P G b (.cond x c d) s Φ:=by
 intro N h0 pl0 M0 w0 a w Q hb hs hQ;obtain⟨pl,M,g1,g2,g3,g4,g5⟩:=hs.ex;have hv:=bq g1 g3 hx;generalize hq:a.eval x=y at hv;cases hv
 cases t
 ·exact wp_cond_false hq (h2 rfl N h0 pl0 M0 w0 a w Q hb hs hQ)
 ·exact wp_cond_true hq (h1 rfl N h0 pl0 M0 w0 a w Q hb hs hQ)
def Wf(id:Nat)(Φ:AExit->St->Prop):AExit->St->Prop
 | .exit k,s=>if k=id then Φ .normal s else Φ (.exit k) s
 |e,s=>Φ e s
theorem ar.block{Φ:AExit->St->Prop}{id:Nat}(h:ar P G b c s (Wf id Φ)):ar P G b (.block id c) s Φ:=by
 intro N h0 pl0 M0 w0 a w Q hb hs hQ;refine wp_block (h N h0 pl0 M0 w0 a w _ hb hs fun e s' a1 w1 h1 h2=>?_);cases e with
 |normal=>exact hQ .normal s' a1 w1 h1 h2
 |ret=>exact hQ .ret s' a1 w1 h1 h2
 |exit k=>
  by_cases hk:k=id
  ·simp only[Wf,hk,if_true]at h1;simp only[wZ,Exit.inBlock,hk,if_true];exact hQ .normal s' a1 w1 h1 h2
  ·simp only[Wf,hk,if_false]at h1;simp only[wZ,Exit.inBlock,hk,if_false];exact hQ (.exit k) s' a1 w1 h1 h2
def aaN(n:Nat)(I:Nat->St->Prop)(Φ:AExit->St->Prop):AExit->St->Prop
 | .normal,s=>∃m,m<n/\I m s
 |e,s=>Φ e s
theorem ar.loop{Φ:AExit->St->Prop}(I:Nat->St->Prop)(n:Nat)(h0:I n s)(hI:∀n s,I n s->ar P G b c s (aaN n I Φ)):ar P G b (.loop c) s Φ:=by
 intro N hp0 pl0 M0 w0 a w Q hb hs hQ;have key:∀(n m:Nat)(s:St)(a:Act)(w:World),n<m->I n s->SNow G N hp0 pl0 M0 w0 s a w->Code.rounds P c Q m a w:=by
  intro n;induction n using Nat.strongRecOn with
  | _ n ih=>
   intro m s a w hm hi hs;cases m with
   |zero=>omega
   | succ m=>
    rw[rounds_succ];refine hI n s hi N hp0 pl0 M0 w0 a w _ hb hs fun e s' a1 w1 h1 h2=>?_
    cases e with
    |normal=>
     obtain⟨k,hk,hi'⟩:=h1;exact ih k hk m s' a1 w1 (by omega) hi' h2
    |exit id=>exact hQ (.exit id) s' a1 w1 h1 h2
    |ret=>exact hQ .ret s' a1 w1 h1 h2
 exact wp_loop_rounds (n+1) (key n (n+1) s a w (Nat.lt_succ_self n) h0 hs)
theorem ar.scope{Φ:AExit->St->Prop}(h:ar P G b c s Φ):ar P G b (.scope c) s Φ:=by
 intro N h0 pl0 M0 w0 a w Q hb hs hQ;refine wp_scope_straight (h N h0 pl0 M0 w0 a w _ hb hs fun e s' a1 w1 h1 h2=>?_);cases e<;>exact hQ _ s' a1 w1 h1 h2
theorem ar.region{Φ:AExit->St->Prop}{id:Nat}(h:cH P G b ops ops.toList s (Φ .normal)):ar P G b (.region id ops false) s Φ:=by
 intro N h0 pl0 M0 w0 a w Q hb hs hQ;refine wp_region ?_;rw[List.range_eq_range'];have hlen:ops.size=ops.toList.length:=by simp
 rw[hlen];exact h 0 N h0 pl0 M0 w0 a w Q hb (fun j=>by simp) hs fun s' a1 w1 h1 h2=>hQ .normal s' a1 w1 h1 h2
theorem cH.nil{Φ:St->Prop}(h:Φ s):cH P G b ops [] s Φ:=fun _ _ _ _ _ _ a w _ _ _ hs hQ=>hQ s a w h hs
theorem cH.one{Φ:St->Prop}(hc:cL P G call)(e:zo call (b0 P G ops o) s some=some s')(h:cH P G b ops l s' Φ):cH P G b ops (o::l) s Φ:=by
 intro i N h0 pl0 M0 w0 a w Q hb hl hs hQ;have ho:ops[i]?=some o:=by simpa using hl 0
 simp only[cO,Cp,wpOps,ho];refine LS (K:=wpOps P ops Q (List.range' (i+1) l.length)) hc hs e fun s1 a1 w1 h1 h2=>?_
 cases h2
 exact h (i+1) N h0 pl0 M0 w0 a1 w1 Q hb (fun j=>by have:=hl (j+1);grind) h1 hQ
theorem cH.val{Φ:St->Prop}(hg:fK s.tmps (e9 ops o)=some true)(e:(fC P G o.op).run s.tmps s.heap=some (.val v h'))(hp:je s.tmps o.dst v=some A')(h:cH P G b ops l ⟨A',h'⟩ Φ):cH P G b ops (o::l) s Φ:=by
 refine cH.one (call:=Aa) DY ?_ h;grind[zo,b0,behind,fin]
theorem cH.calls{Φ:St->Prop}{Ψ:AV->AHeap->Prop}(hg:fK s.tmps (e9 ops o)=some true)(e:(fC P G o.op).run s.tmps s.heap=some (.call f args))(hf:aN P G f args s.heap Ψ)
  (h:∀v h',Ψ v h'->∃A',je s.tmps o.dst v=some A'/\cH P G b ops l ⟨A',h'⟩ Φ):cH P G b ops (o::l) s Φ:=by
 intro i N h0 pl0 M0 w0 a w Q hb hl hs hQ;have ho:ops[i]?=some o:=by simpa using hl 0
 obtain⟨pl,M,g1,g2,g3,g4,g5⟩:=hs.ex;simp only[cO,Cp,wpOps,ho];rw[f8 g3 hg];simp only[if_true];left;obtain⟨vs,q1,q2⟩:=u9 (P:=P) (w:=w) g1 g3 e;have key:∀cv w' v h',Ψ v h'->iD pl M s.heap w v h' cv w'->wpOps P ops Q (List.range' (i+1) l.length) (a.put o.dst cv) w':=by
  intro cv w' v h' hΨ ⟨pl',M',k1,k2,k3,k4⟩;obtain⟨A',e2,hh⟩:=h v h' hΨ;obtain⟨p1,p2⟩:=oW (g3.mono k3.ext k3.mem) k1 (by rw[hs.n];exact hs.small) e2;exact hh (i+1) N h0 pl0 M0 w0 _ w' Q hb (fun j=>by have:=hl (j+1);grind)
   ⟨⟨pl',M',g1.mono k3.ext k3.mem,k2,p1,g4.trans k3 g5,bu g5 k4⟩,by rw[<-hs.n];omega,hs.small⟩ hQ
 unfold Oper.wp;rw[q2];rcases hf pl M w vs g1 g2 q1 with⟨k1,k2⟩|⟨cv,w',v,h',k1,k2,k3⟩
 ·rw[k1];refine Calls.mono k2 fun en w'' ⟨cv,v,h',e1,e2,e3⟩=>?_
  grind
 ·rw[k1];exact key cv w' v h' k2 k3
structure SubSt(s' s:St):Prop where
 n:s'.tmps.n=s.tmps.n
 tmps:∀t v,s'.tmps.get t=some v->s.tmps.get t=some v
 hn:s.heap.n<=s'.heap.n
 objs:∀id o,s'.heap.get id=some o->s.heap.get id=some o
theorem SubSt.now{N:Nat}{h0:AHeap}{pl0:Pl}{M0:dT}{w0:World}{a:Act}{w:World}(hS:SubSt s' s)(hs:SNow G N h0 pl0 M0 w0 s a w):SNow G N h0 pl0 M0 w0 s' a w:=by
 obtain⟨⟨pl,M,g1,g2,g3,g4,g5⟩,hn,hsm⟩:=hs;refine⟨⟨pl,M,g1,⟨fun id p hp=>by have:=g2.dom id p hp;have:=hS.hn;omega,fun id p o hp hg=>g2.obj id p o hp (hS.objs id o hg),g2.blk,g2.inj,g2.imm,g2.sep⟩,⟨by rw[hS.n];exact g3.size,g3.defers,fun t v ht=>?_⟩,⟨g4.ext,g4.new,g4.mem,g4.size,g4.kept,g4.blks,fun id p hp hg=>?_,g4.stay,g4.memNew,g4.os,g4.tape,g4.out,g4.drawn⟩,bu g5 hS.hn⟩,by rw[hS.n];omega,hsm⟩
 ·grind[cases SubSt,cases FrRel]
 ·cases hh:s'.heap.get id with
  |none=>rfl
  |some o=>have:=g4.live id p hp hg;grind[cases SubSt]
theorem aN.enter{hp:AHeap}{fn:Func}{Ψ:AV->AHeap->Prop}(pol:Nat)(hf:P.funcs[f]?=some fn)(hN:(fn.name== "runtime.NumGoroutine")=false)(hb:fn.body=some c)(hn:Nat.ble args.length fn.ntmps=true/\Nat.ble fn.ntmps 60000=true)
  (h:ar P G (some hp.n) c ⟨⟨fn.ntmps,ig fn.ntmps args 0 .nil⟩,hp⟩ fun e s=>(∀id,e≠.exit id)/\∃v,fp (fD P fn.results.toList s.tmps s.heap)=some v/\Ψ (gk pol hp.n v s.heap).1 (gk pol hp.n v s.heap).2):aN P G f args hp Ψ:=by
 intro pl M w vs hg hr hv;simp only[ba,decide_eq_true_eq]at hn;left;simp only[beq_eq_false_iff_ne,ne_eq]at hN;refine⟨by simp_all[callFunc],calls_of_wp hf hb ?_⟩;have hs0:SNow G fn.ntmps hp pl M w ⟨⟨fn.ntmps,ig fn.ntmps args 0 .nil⟩,hp⟩ {tmps:=vs++Array.replicate (fn.ntmps-vs.size) undef,defers:=[]} w:=⟨⟨pl,M,hg,hr,zp hv hn.1 hn.2,dQ.refl _ _ _ _,af _⟩,rfl,hn.2⟩
 refine h fn.ntmps hp pl M w _ w _ (fun m hb=>?_) hs0 fun e s a1 w1 h1 h2=>?_
 ·cases hb
  exact⟨rfl,fun id p hq=>hr.dom id p hq⟩
 ·obtain⟨hne,v,hres,hΨ⟩:=h1;obtain⟨pl1,M1,g1,g2,g3,g4,g5⟩:=h2.ex;obtain⟨cv,k1,k2⟩:=td g2 g3 hres;obtain⟨pl2,M2,q1,q2,q3,q4⟩:=vW pol hr g2 k2 g4 g5 (rfl:gk pol hp.n v s.heap=((gk pol hp.n v s.heap).1,(gk pol hp.n v s.heap).2));have fin:a1.defers=[]/\∃u,(results fn a1.tmps).run P w1=.ok u w1/\∃cv v h',Ending.returned u=.returned cv/\Ψ v h'/\iD pl M hp w v h' cv w1:=⟨g3.defers,cv,k1,cv,_,_,rfl,hΨ,pl2,M2,q1,q2,q3,q4⟩
  cases e with
  |exit id=>simp_all
  |normal=>exact fin
  |ret=>exact fin
def jc(G:fy):Prop:=∀g x,G g=some x->x.top=0
theorem rY{pl:Pl}{M:dT}{n:Nat}{g:Nat->Option AObj}{w:World}(hr:RepF pl M n g w):cN (fun _=>none) M AHeap.none w:=⟨fun _ _ h=>by simp_all,fun _ _ _ h=>by simp_all,fun _ _ h=>by simp_all,fun _ _ _ _ h=>by simp_all,hr.imm,fun _ _ h=>by simp_all⟩
theorem VRel.none{pl pl':Pl}{M:dT}{x:Value}(h:VRel pl M v x)(ht:v.top=0):VRel pl' M v x:=h.agree (n:=0) (by omega) (fun _ _ h _=>absurd h (qL _)) (fun _ _ h=>h)
theorem VRels.none{pl pl':Pl}{M:dT}{xs:List AV}{ys:Array Value}(h:VRels pl M xs ys)(ht:az xs=0):VRels pl' M xs ys:=⟨h.len,fun j y hj=>(h.at_ j y hj).none (by have:=eJ.1 (xQ ht) y (bH hj);omega)⟩
theorem qr.none{pl pl':Pl}{M:dT}(hG:jc G)(h:qr G pl M):qr G pl' M:=fun g x hg=>⟨(h g x hg).1.none (by have:=hG g x hg;simp[AV.top,az,this];rfl),(h g x hg).2⟩
theorem wg{pl pl':Pl}{M M':dT}{n m:Nat}{g:Nat->Option AObj}{w w':World}{h1:AHeap}(hr:RepF pl M n g w)(hr':cN pl' M' h1 w')(hs:dQ AHeap.none (fun _=>none) M w h1 pl' M' w'):
  RepF pl M' n g w'/\StepF m g pl M w g pl M' w':=by
 have kept:∀b,b<w.heap.size->w'.heap[b]?=w.heap[b]?:=fun b hb=>hs.kept b hb (fun id p h=>by simp_all)
 refine⟨⟨hr.dom,fun id p o hp hg=>?_,fun id p hp=>F5 (hr.blk id p hp) hs.size,hr.inj,hr'.imm,fun id p hp=>?_⟩,⟨n8.refl _,fun _ _ h=>h,hs.mem,hs.size,fun b hb _=>kept b hb,fun id p h=>.inl ⟨p,h,rfl⟩,fun _ _ _ h=>h,fun _ _ h _=>h,hs.memNew,hs.os,hs.tape,hs.out,hs.drawn⟩⟩
 ·rw[kept _ (hr.blk id p hp)];exact(hr.obj id p o hp hg).mono (n8.refl _) hs.mem
 ·cases hM:M' p.blk with
  |none=>rfl
  |some c=>
   rcases hs.memNew _ c hM with k|k
   all_goals grind[cases RepF]
theorem aN.lift{Ψ:AV->AHeap->Prop}(hG:jc G)(ht:az args=0)(h0:aN P G f args AHeap.none Ψ)(hΨ:∀v h',Ψ v h'->v.top=0)(h:AHeap):
  aN P G f args h (fun v h'=>(∃h1,Ψ v h1)/\h'=h):=by
 intro pl M w vs hg hr hv;have fin:∀v h1 cv w',Ψ v h1->iD (fun _=>none) M AHeap.none w v h1 cv w'->iD pl M h w v h cv w':=by
  intro v h1 cv w' hp ⟨pl',M',k1,k2,k3,k4⟩;obtain⟨q1,q2⟩:=wg (m:=h.n) hr k2 k3;exact⟨pl,M',k1.none (hΨ v h1 hp),q1,q2,af _⟩
 rcases h0 (fun _=>none) M w vs (hg.none hG) (rY hr) (hv.none ht)with⟨h1,h2⟩|⟨cv,w',v,h',h1,h2,h3⟩
 ·exact .inl ⟨h1,Calls.mono h2 fun e w' ⟨cv,v,h',k1,k2,k3⟩=>⟨cv,v,h,k1,⟨⟨h',k2⟩,rfl⟩,fin v h' cv w' k2 k3⟩⟩
 ·exact .inr ⟨cv,w',v,h,h1,⟨⟨h',h2⟩,rfl⟩,fin v h' cv w' h2 h3⟩
def bY(P:Program)(G:fy)(f:FuncId)(args:List AV)(v:AV):Prop:=∀h,aN P G f args h (fun v1 h1=>v1=v/\h1=h)
theorem px(hG:jc G)(ht:az args=0)(hv:v.top=0)(h0:aN P G f args AHeap.none (fun v1 _=>v1=v)):bY P G f args v:=fun h=>(aN.lift hG ht h0 (fun v1 _ e=>by simp_all) h).mono fun v1 h1 ⟨⟨_,e1⟩,e2⟩=>⟨e1,e2⟩
end
def tJ(P:Program)(G:fy)(ops:Array Oper):Nat->List Oper->Fr->AHeap->List Rec->(Fr->AHeap->Prop)->Prop
 |_,[],F,h,_,Φ=>h.n<=1000000/\Φ F h
 |k,o::rest,F,h,rs,Φ=>∃v h1 r F',DSpec P G ops o (o.looksAt ops) F h v h1 r/\l0 (fq (eC ops.toList 0 []) k) r rs k=true/\je F o.dst v=some F'/\tJ P G ops (k+1) rest F' h1 (r::rs) Φ
section
variable{P:Program}{G:fy}{b:Option Nat}{ops:Array Oper}{l:List Oper}{o:Oper}{s s':St}{h h':AHeap}{v:AV}{A A':Fr}{call:cA}{f:FuncId}{args:List AV}{c d:Code}
theorem Ig:∀(l:List Oper)(k:Nat)(hs0:Nat->AHeap)(Fs0:Nat->Fr)(vs0:Nat->AV)(rc0:Nat->Rec)(Φ:Fr->AHeap->Prop),tJ P G ops k l (Fs0 k) (hs0 k) (gw rc0 k) Φ->
  ∃(hs:Nat->AHeap)(Fs:Nat->Fr)(vs:Nat->AV)(rc:Nat->Rec),(∀i,i<=k->hs i=hs0 i/\Fs i=Fs0 i)/\(∀i,i<k->vs i=vs0 i/\rc i=rc0 i)/\
   (∀j o,l[j]?=some o->DSpec P G ops o (o.looksAt ops) (Fs (k+j)) (hs (k+j)) (vs (k+j)) (hs (k+j+1)) (rc (k+j)))/\
   (∀j o,l[j]?=some o->je (Fs (k+j)) o.dst (vs (k+j))=some (Fs (k+j+1)))/\
   (∀j o,l[j]?=some o->∀i,i<k+j->Ns (rc i) (rc (k+j))->Nat.testBit (fq (eC ops.toList 0 []) (k+j)) i=true)/\
   (hs (k+l.length)).n<=1000000/\Φ (Fs (k+l.length)) (hs (k+l.length))
 |[],k,hs0,Fs0,vs0,rc0,Φ,e=>by
  obtain⟨e1,e2⟩:=e;exact⟨hs0,Fs0,vs0,rc0,fun _ _=>⟨rfl,rfl⟩,fun _ _=>⟨rfl,rfl⟩,fun j d h=>by simp_all,fun j d h=>by simp_all,fun j d h=>by simp_all,by omega,by omega⟩
 | o::r,k,hs0,Fs0,vs0,rc0,Φ,e=>by
  obtain⟨v,h',rec,F',ho,hcl,hp,e⟩:=e;let hs1:Nat->AHeap:=fun i=>if i=k+1 then h' else hs0 i
  let Fs1:Nat->Fr:=fun i=>if i=k+1 then F' else Fs0 i
  let vs1:Nat->AV:=fun i=>if i=k then v else vs0 i
  let rc1:Nat->Rec:=fun i=>if i=k then rec else rc0 i
  have er:rec::gw rc0 k=gw rc1 (k+1):=by
   simp only[gw];grind[pi]
  have e2:tJ P G ops (k+1) r (Fs1 (k+1)) (hs1 (k+1)) (gw rc1 (k+1)) Φ:=by grind
  obtain⟨hs,Fs,vs,rc,a1,a2,a3,a4,a5,a6,a7⟩:=Ig r (k+1) hs1 Fs1 vs1 rc1 Φ e2;have hk:=a1 k (by omega);have hk1:=a1 (k+1) (by omega);have hvk:=a2 k (by omega);simp only[hs1,Fs1,show ¬k=k+1 by omega,if_false,if_true]at hk hk1;simp only[vs1,rc1,if_true]at hvk;refine⟨hs,Fs,vs,rc,fun i hi=>?_,fun i hi=>?_,fun j d' hj=>?_,fun j d' hj=>?_,fun j d' hj i hi hc=>?_,?_,?_⟩
  ·grind
  ·grind
  ·grind
  ·grind
  ·match j,hj with
   |0,hj=>
    simp at hj;subst hj;simp only[qj]at hi hc ⊢;have hri:=(a2 i (by omega)).2;simp only[rc1,show ¬i=k by omega,if_false]at hri;rw[hri,hvk.2]at hc;have hcl':l0 (fq (eC ops.toList 0 []) k) rec (gw rc0 k) (gw rc0 k).length=true:=by grind[nh]
    have:=tD hcl' (k-1-i) (rc0 i) (tf rc0 k i hi) hc;grind[nh]
   |j+1,hj=>grind
  all_goals grind
noncomputable def E8(P:Program)(G:fy)(ops:Array Oper):Bool:=Be ops.toList&&Region.noSelect ops&&(ni P G ops (eC ops.toList 0 []) ops.toList 0).isSome
theorem ar.draw{Φ:AExit->St->Prop}{id:Nat}(hm:P.follows .mixedOrders=true)(hfit:E8 P G ops=true)(h:tJ P G ops 0 ops.toList s.tmps s.heap [] fun F hp=>Φ .normal ⟨F,hp⟩):ar P G b (.region id ops true) s Φ:=by
 intro N h0 pl0 M0 w0 a w Q hb hsn hQ;unfold E8 at hfit;simp only[bZ]at hfit;obtain⟨⟨hck1,hck2⟩,hck3⟩:=hfit;obtain⟨ds,hrd⟩:=Option.isSome_iff_exists.1 hck3;obtain⟨⟨pl,M,g1,g2,g3,g4,g5⟩,hn,hsm⟩:=hsn;obtain⟨hs,Fs,vs,rc,a1,_,D1,D2,D3,D4,D5⟩:=Ig ops.toList 0 (fun _=>s.heap) (fun _=>s.tmps) (fun _=>gF) (fun _=>⟨⟨false,[],0,0⟩,⟨false,[],0,0⟩⟩) _ h;obtain⟨e1,e2⟩:=a1 0 (af _);obtain⟨hlen,hget⟩:=pm hrd;have hl:ops.toList.length=ops.size:=by simp
 simp only[gn]at D1 D2 D3;rw[gn,hl]at D4 D5;have R:Reg P G Aa ops N hs Fs vs rc:=by
  refine⟨hsm,by simp_all,fun t u h=>?_,D4,fun j o ho=>?_,fun j o ho=>?_,fun j o ho i hi hcl=>?_,fun j o ho=>?_,fun j o ho=>?_,fun i j oi oj t hi hj=>wH hck1 i j oi oj t (by simp_all) (by simp_all)⟩;all_goals grind[cases FrRel]
 refine wp_region_any hm (Tv R (h0:=s.heap) (pl0:=pl) (M0:=M) (w0:=w) g1 g2.dom (by simp_all) (fun a1 w1 h1=>?_) ops.size _ a _ (by simp) ?_ ?_)
 ·obtain⟨pl1,M1,k1,k2,k3⟩:=h1;refine hQ .normal _ a1 w1 D5 ⟨⟨pl1,M1,g1.mono k2.ext k2.mem,k1,k3,g4.trans k2 g5,?_⟩,(R.frame ops.size (af _)).1,hsm⟩;have:=R.mono (b8 ops.size) (af _);grind
 ·simp_all
 ·have hno:∀j,¬(Array.replicate ops.size false).getD j false=true:=by simp_all[Array.getD]
  refine⟨fun i hi=>absurd hi (hno i),⟨pl,M,s.heap.get,?_,?_,fun id m o hm ha _ hg=>?_,fun j hj _ id h1 h2=>?_,fun j o t _ h=>absurd h (hno j),fun t u _ hu=>?_⟩,by rw[g3.size];omega,g3.defers⟩
  ·refine⟨fun id p hp=>?_,g2.obj,g2.blk,g2.inj,g2.imm,g2.sep⟩;have h1:=g2.dom id p hp;have:=R.mono (b8 ops.size) (af _);grind
  ·exact⟨n8.refl _,fun _ _ h=>h,fun _ _ h=>h,af _,fun _ _ _=>rfl,fun id p h=>.inl ⟨p,h,rfl⟩,fun _ _ _ h=>h,fun _ _ h _=>h,fun _ _ h=>.inl h,rfl,rfl,rfl,n9 _⟩
  ·have:=R.back (j:=0) m (b8 _) hm (fun i _ h2 hw=>hno i (ha i h2 hw)) hg;simp_all
  ·cases hp:pl id with
   |none=>rfl
   |some p=>
    have h3:=g2.dom id p hp;have:=R.mono (b8 j) (by omega);grind
  grind[cases FrRel]
theorem DSpec.of(hc:cL P G call){F:Fr}{h1:AHeap}{r:Rec}(e:FU call F h ⟨b0 P G ops o,o.looksAt ops,dG o.op,dK o.op,0⟩=some (v,h1,r)):DSpec P G ops o (o.looksAt ops) F h v h1 r:=Nz hc rfl rfl e
theorem DSpec.pure(hG:jc G){F:Fr}(hg:fK ⟨F.n,cZ F (o.looksAt ops) .nil⟩ (e9 ops o)=some true)(e:(fC P G o.op).run ⟨F.n,cZ F (o.looksAt ops) .nil⟩ h=some (.call f args))
  (ht:az args=0)(hv:v.top=0)(hf:bY P G f args v):DSpec P G ops o (o.looksAt ops) F h v h ⟨⟨false,[],0,0⟩,⟨false,[],0,0⟩⟩:=by
 refine⟨af _,fun _ _ _ h=>h,fun id h1 h2=>by omega,?_⟩;intro nk n0 g pl M a w K Q hn0 hnk hbig hr hvis hU hG' hs hdf hF hK;have hf0:FrRel pl M ⟨F.n,cZ F (o.looksAt ops) .nil⟩ a:=iy hs hdf hF;rw[f8 hf0 hg];simp only[if_true];left;have hG2:qr G pl M:=hG'.none hG;obtain⟨vs,q1,q2⟩:=u9 (P:=P) (w:=w) hG2 hf0 e;have fin:∀h1 cv w',iD (fun _=>none) M AHeap.none w v h1 cv w'->K (a.put o.dst cv) w':=by
  intro h1 cv w' ⟨pl',M',k1,k2,k3,k4⟩;obtain⟨z1,z2⟩:=wg (m:=n0) hr k2 k3;exact hK cv w' pl M' g z1 z2 (k1.none hv) (n8.refl _) (fun id h _=>h) (fun _ _=>rfl) (fun id o' hh=>absurd hh (sK (ids:=[])))
 unfold Oper.wp;rw[q2];rcases hf AHeap.none (fun _=>none) M w vs (hG2.none hG) (rY hr) (q1.none ht)with⟨k1,k2⟩|⟨cv,w',v',h',k1,⟨rfl,rfl⟩,k3⟩
 ·rw[k1];refine Calls.mono k2 fun en w'' ⟨cv,v',h',e1,e2,e3⟩=>?_
  grind
 ·rw[k1];exact fin _ cv w' k3
end
noncomputable section
def En:List (Nat×AV)->Tr AV->Tr AV
 |[],t=>t
 |p::r,t=>En r (match Nat.blt p.1 60000 with|true=>t.set 16 p.1 p.2|false=>t)
def eE(n:Nat)(L:List (Nat×AV)):Fr:=⟨n,En L .nil⟩
def EC:List AObj->Nat->Tr AObj->Tr AObj
 |[],_,t=>t
 |o::r,i,t=>EC r (i+1) (match Nat.blt i 1000000 with|true=>t.set 20 i o|false=>t)
def aw(L:List AObj):AHeap:=⟨L.length,EC L 0 .nil⟩
def pO(A:Fr):List Nat->Option (List AV)
 |[]=>some []
 |t::r=>match A.get t with
  |some v=>match pO A r with|some vs=>some (v::vs)|none=>none
  |none=>none
section
variable{P:Program}{G:fy}{b:Option Nat}{ops:Array Oper}{l:List Oper}{o:Oper}{s s':St}{h h':AHeap}{v:AV}{A A':Fr}{call:cA}{f:FuncId}{args:List AV}{c d:Code}
theorem AJ:∀{L:List (Nat×AV)}{t:Tr AV}{x:Nat}{v:AV},(En L t).get x=some v->(x,v)∈L\/t.get x=some v
 |[],t,x,v,h=>.inr h
 | p::r,t,x,v,h=>by
  simp only[En]at h;rcases AJ h with h1|h1
  ·exact .inl (dA _ h1)
  ·rw[dN]at h1;by_cases hlt:p.1<60000
   ·simp only[hlt,decide_true]at h1;rcases jy 16 t p.1 p.2 x v (Nat.lt_trans (Nat.succ_lt_succ hlt) (by decide)) h1 with⟨rfl,rfl⟩|⟨_,h2⟩
    ·exact .inl (by simp)
    ·exact .inr h2
   ·simp only[hlt,decide_false]at h1;exact .inr h1
theorem vQ{n:Nat}{L:List (Nat×AV)}{x:Nat}{v:AV}(h:(eE n L).get x=some v):(x,v)∈L:=by
 rcases AJ (t:=.nil) h with h1|h1
 ·exact h1
 ·rw[gq]at h1;cases h1
theorem Aw:∀{L:List AObj}{i:Nat}{t:Tr AObj}{x:Nat}{o:AObj},(EC L i t).get x=some o->(i<=x/\L[x-i]?=some o)\/t.get x=some o
 |[],i,t,x,o,h=>.inr h
 | q::r,i,t,x,o,h=>by
  simp only[EC]at h;rcases Aw h with⟨h1,h2⟩|h1
  ·exact .inl ⟨by omega,by rw[show x-i=(x-(i+1))+1 by omega];simpa using h2⟩
  ·rw[dN]at h1;by_cases hlt:i<1000000
   ·simp only[hlt,decide_true]at h1;rcases jy 20 t i q x o (Nat.lt_trans (Nat.succ_lt_succ hlt) (by decide)) h1 with⟨rfl,rfl⟩|⟨_,h2⟩
    ·exact .inl ⟨af _,by simp⟩
    ·exact .inr h2
   ·simp only[hlt,decide_false]at h1;exact .inr h1
theorem oJ{L:List AObj}{x:Nat}{o:AObj}(h:(aw L).get x=some o):L[x]?=some o:=by
 obtain⟨_,_,h3⟩:=AHeap.get_some.1 h;rcases Aw (t:=.nil) h3 with⟨_,h1⟩|h1
 ·simpa using h1
 ·rw[gq]at h1;cases h1
theorem A7:∀{ts:List Nat}{vs:List AV},pO A ts=some vs->∀t v,(t,v)∈ts.zip vs->A.get t=some v
 |[],vs,_,t,v,h=>by simp at h
 | x::r,vs,e,t,v,h=>by
  simp only[pO]at e;cases hx:A.get x with
  |none=>simp[hx]at e
  | some u=>
   cases hr:pO A r with
   |none=>simp[hx,hr]at e
   |some us=>
    simp[hx,hr]at e;subst e;simp only[List.zip_cons_cons,dP,ub]at h;rcases h with⟨rfl,rfl⟩|h
    ·exact hx
    ·exact A7 hr t v h
end
end
section
variable{H:Type}
def cG(w:World):dT:=fun b=>match w.heap[b]? with|some (.cells c _ _)=>some c|_=>none
theorem JT{w:World}{b:Nat}{c:Array Value}(h:cG w b=some c):∃t fr,w.heap[b]?=some (.cells c t fr):=by
 unfold cG at h;split at h
 ·rename_i c' t fr q;cases h
  exact⟨t,fr,q⟩
 ·cases h
theorem N1(w:World):cN (fun _=>none) (cG w) AHeap.none w:=⟨fun _ _ h=>by simp at h,fun _ _ _ h=>by simp at h,fun _ _ h=>by simp at h,fun _ _ _ _ h=>by simp at h,fun _ _ h=>JT h,fun _ _ h=>by simp at h⟩
def wG(ag:Bool):List AV->Option AV
 | xs=>match ag with
  |true=>some (.agg xs)
  |false=>match xs with
   |[x]=>some x
   |_=>none
def wO(f:DataW H->Option (List AV))(ag:Bool)(sz:Nat):List (DataW H)->Option (List AV)
 |[]=>some []
 | d::r=>match f d with
  |some xs=>match Nat.beq xs.length sz,wG ag xs,wO f ag sz r with
   |true,some x,some ys=>some (x::ys)
   |_,_,_=>none
  |none=>none
def me(P:Program)(f:TypeId->DataW H->Option (List AV)):List Field->List (DataW H)->Nat->Option (List AV)
 |[],[],_=>some []
 | x::fs,d::ds,off=>match f x.type d with
  |some xs=>match Nat.beq x.offset off&&Nat.beq xs.length (P.cellsOf x.type),me P f fs ds (off+P.cellsOf x.type)with
   |true,some ys=>some (xs++ys)
   |_,_=>none
  |none=>none
 |_,_,_=>none
def si(f:DataW H->Option (List AV))(sz:Nat):List (DataW H)->Option (List AV)
 |[]=>some []
 | d::r=>match f d with
  |some xs=>match Nat.beq xs.length sz,si f sz r with
   |true,some ys=>some (xs++ys)
   |_,_=>none
  |none=>none
def A9(n:Nat):Option (List AV)->Option (List AV)
 |some xs=>match Nat.beq xs.length n with|true=>some xs|false=>none
 |none=>none
def Ff(P:Program):Nat->TypeId->DataW H->Option (List AV)
 |0,_,_=>none
 | k+1,t,d=>
  match P.underlying t,d with
  |some .bool,.lit (.bool b)=>some [.bool b]
  |some (.int _),.lit (.int k n)=>some [.int k n]
  |some .string,.lit (.string s)=>some [.str s]
  |some (.slice _),.nil=>some [.nils]
  |some (.slice e),.slice es _=>match c8 P e,wO (Ff P k e) ((c8 P e).getD false) (P.cellsOf e) es,Nat.blt 0 (P.cellsOf e)with
   |some _,some xs,true=>some [.ps xs false]
   |_,_,_=>none
  |some (.struct fs),.agg ds=>A9 (P.cellsOf t) (me P (Ff P k) fs.toList ds 0)
  |some (.array _ e),.agg ds=>A9 (P.cellsOf t) (si (Ff P k e) (P.cellsOf e) ds)
  |_,_=>none
variable{enc:TypeId×Value->H}{P:Program}{w:World}{base:Nat}{spare:Nat->Bool}{held:Bool}
theorem VRels.appendL{pl:Pl}{M:dT}{xs ys:List AV}{a b:List Value}(h:VRels pl M xs a.toArray)(k:VRels pl M ys b.toArray):VRels pl M (xs++ys) (a++b).toArray:=by
 have h1:=h.len;have k1:=k.len;simp only[Cs]at h1 k1;refine⟨by simp[h1,k1],fun j y hj=>?_⟩;by_cases hlt:j<xs.length
 ·rw[sL hlt]at hj;have:=h.at_ j y hj;rw[iJ]at this ⊢;simp only[oE]at this ⊢;rw[sL (by omega)];exact this
 ·rw[oD (by omega)]at hj;have:=k.at_ _ y hj;rw[iJ]at this ⊢;simp only[oE]at this ⊢;rw[oD (by omega),<-h1];exact this
theorem DM{a:Addr}{n:Nat}{cs:List Value}(h:w.cells? base a n=some cs):cs.length=n/\∀i,i<n->w.cell? (a.add i)=cs[i]?:=by
 unfold World.cells? at h;split at h
 ·have key:∀(l:List Nat)(cs:List Value),(l.mapM fun i=>w.cell? (a.add i))=some cs->cs.length=l.length/\∀(i j:Nat),l[i]?=some j->w.cell? (a.add j)=cs[i]?:=by
   intro l;induction l with
   |nil=>intro cs h;simp at h;subst h;exact⟨rfl,fun i j h=>by simp at h⟩
   |cons x r ih=>
    intro cs h;simp only[List.mapM_cons,Option.bind_eq_bind,Option.bind_eq_some_iff,Option.pure_def,yz]at h;obtain⟨v,h1,vs,h2,rfl⟩:=h;obtain⟨k1,k2⟩:=ih vs h2;refine⟨by simp[k1],fun i j hij=>?_⟩;cases i with
    |zero=>simp at hij;subst hij;simpa using h1
    |succ i=>simpa using k2 i j (by simpa using hij)
  obtain⟨k1,k2⟩:=key _ _ h;exact⟨by simpa using k1,fun i hi=>k2 i i (by simp[hi])⟩
 ·cases h
theorem se{a:Addr}{v:Value}(h:w.cell? a=some v):a.spot=none/\∃c,cG w a.block=some c/\c[a.off]?=some v:=by
 unfold World.cell? at h;unfold cG;split at h
 ·rename_i c t fr q;split at h
  ·cases h
  ·rename_i hs;exact⟨by simpa using hs,c,by rw[q],h⟩
 ·cases h
theorem xH{n:Nat}{o:Option (List AV)}{xs:List AV}(h:A9 n o=some xs):o=some xs/\xs.length=n:=by
 cases o with
 |none=>simp[A9]at h
 |some ys=>
  simp only[A9,aB]at h;by_cases q:ys.length=n
  ·simp[q]at h;subst h;exact⟨rfl,q⟩
  ·simp[q]at h
theorem vf{ag:Bool}{xs:List AV}{x:AV}(h:wG ag xs=some x)(hs:∀y,y∈xs->dW y=true):x.cells=xs/\Sc x:=by
 unfold wG at h;cases ag with
 |true=>
  simp at h;subst h;exact⟨rfl,hs⟩
 | false=>
  simp only[]at h;split at h
  ·cases h
   have h1:=hs x (by simp);have e:x.cells=[x]:=by cases x<;>simp_all[dW,AV.cells]
   exact⟨e,fun z hz=>by rw[e]at hz;simp at hz;subst hz;exact h1⟩
  ·cases h
theorem vH{f:TypeId->DataW H->Option (List AV)}{tr:TypeId->List Value->Option (DataW H×List MemPlace)}{pl:Pl}{M:dT}{cs:List Value}
  (ih:∀t cs d p xs,f t d=some xs->tr t cs=some (d,p)->VRels pl M xs cs.toArray/\∀x,x∈xs->dW x=true):
  ∀(fs:List Field)(ds:List (DataW H×List MemPlace))(off:Nat)(xs:List AV),me P f fs (ds.map (·.1)) off=some xs->(∀(i:Nat)(x:Field),fs[i]?=some x->tr x.type ((cs.drop x.offset).take (P.cellsOf x.type))=ds[i]?)->off+xs.length=cs.length->
   VRels pl M xs (cs.drop off).toArray/\∀x,x∈xs->dW x=true
 |[],[],off,xs,e,_,hl=>by
  simp[me]at e;subst e;simp only[iW,qj]at hl;refine⟨⟨by simp;omega,fun j y h=>by simp at h⟩,fun x h=>by simp at h⟩
 |[],_::_,_,_,e,_,_=>by simp[me]at e
 |_::_,[],_,_,e,_,_=>by simp[me]at e
 | x::fs,d::ds,off,xs,e,h,hl=>by
  simp only[eg,me]at e;cases hf:f x.type d.1 with
  |none=>rw[hf]at e;simp at e
  | some ys=>
   rw[hf]at e;simp only[]at e;cases hr:me P f fs (ds.map (·.1)) (off+P.cellsOf x.type)with
   |none=>rw[hr]at e;simp at e
   | some zs=>
    rw[hr]at e;simp only[aB]at e;by_cases q:x.offset=off/\ys.length=P.cellsOf x.type
    ·obtain⟨q1,q2⟩:=q;simp[q1,q2]at e;subst e;simp only[eG]at hl;have h0:=h 0 x rfl;simp only[Co]at h0;obtain⟨k1,k2⟩:=ih _ _ d.1 d.2 ys hf h0;obtain⟨k3,k4⟩:=vH ih fs ds (off+P.cellsOf x.type) zs hr (fun i y hy=>by simpa using h (i+1) y (by simpa using hy)) (by omega);rw[q1]at k1;have e2:cs.drop off=(cs.drop off).take (P.cellsOf x.type)++cs.drop (off+P.cellsOf x.type):=by rw[<-Cn,F4]
     rw[e2];exact⟨k1.appendL k3,fun y hy=>(mZ.1 hy).elim (k2 y) (k4 y)⟩
    ·exfalso;rcases Classical.not_and_iff_not_or_not.1 q with q|q<;>simp[q]at e
theorem yY{f:DataW H->Option (List AV)}{tr:List Value->Option (DataW H×List MemPlace)}{sz:Nat}{pl:Pl}{M:dT}{cs:List Value}
  (ih:∀cs d p xs,f d=some xs->tr cs=some (d,p)->VRels pl M xs cs.toArray/\∀x,x∈xs->dW x=true):
  ∀(ds:List (DataW H×List MemPlace))(n:Nat)(xs:List AV),si f sz (ds.map (·.1))=some xs->(∀i,i<ds.length->tr ((cs.drop ((n+i)*sz)).take sz)=ds[i]?)->n*sz+xs.length=cs.length->
   VRels pl M xs (cs.drop (n*sz)).toArray/\∀x,x∈xs->dW x=true
 |[],n,xs,e,_,hl=>by
  simp[si]at e;subst e;simp only[iW,qj]at hl;refine⟨⟨by simp;omega,fun j y h=>by simp at h⟩,fun x h=>by simp at h⟩
 | d::ds,n,xs,e,h,hl=>by
  simp only[eg,si]at e;cases hf:f d.1 with
  |none=>rw[hf]at e;simp at e
  | some ys=>
   rw[hf]at e;simp only[]at e;cases hr:si f sz (ds.map (·.1))with
   |none=>rw[hr]at e;simp at e
   | some zs=>
    rw[hr]at e;simp only[aB]at e;by_cases q2:ys.length=sz
    ·simp[q2]at e;subst e;simp only[eG]at hl;have h0:=h 0 (by simp);simp only[Co,qj]at h0;obtain⟨k1,k2⟩:=ih _ d.1 d.2 ys hf h0;obtain⟨k3,k4⟩:=yY ih ds (n+1) zs hr (fun i hi=>by have:=h (i+1) (by simpa using hi);rw[show n+(i+1)=n+1+i by omega]at this;simpa using this) (by rw[qw];omega);have e2:cs.drop (n*sz)=(cs.drop (n*sz)).take sz++cs.drop ((n+1)*sz):=by rw[qw,<-Cn,F4]
     rw[e2];exact⟨k1.appendL k3,fun y hy=>(mZ.1 hy).elim (k2 y) (k4 y)⟩
    ·simp[q2]at e
theorem BC{f:DataW H->Option (List AV)}{ag:Bool}{sz:Nat}:∀(ds:List (DataW H))(xs:List AV),wO f ag sz ds=some xs->xs.length=ds.length/\∀(i:Nat)(x:AV),xs[i]?=some x->∃d ys,ds[i]?=some d/\f d=some ys/\ys.length=sz/\wG ag ys=some x
 |[],xs,e=>by simp[wO]at e;subst e;exact⟨rfl,fun i x h=>by simp at h⟩
 | d::r,xs,e=>by
  simp only[wO]at e;cases hf:f d with
  |none=>rw[hf]at e;simp at e
  | some ys=>
   rw[hf]at e;simp only[aB]at e;cases he:wG ag ys with
   |none=>rw[he]at e;simp at e
   | some x=>
    cases hr:wO f ag sz r with
    |none=>rw[he,hr]at e;simp at e
    | some zs=>
     rw[he,hr]at e;by_cases q:ys.length=sz
     ·simp[q]at e;subst e;obtain⟨k1,k2⟩:=BC r zs hr;refine⟨by simp[k1],fun i y hy=>?_⟩;cases i with
      |zero=>simp at hy;subst hy;exact⟨d,ys,rfl,hf,q,he⟩
      |succ i=>simpa using k2 i y (by simpa using hy)
     ·simp[q]at e
theorem ur:∀(k fuel:Nat)(t:TypeId)(cs:List Value)(d:DataW H)(p:List MemPlace)(xs:List AV),Ff P k t d=some xs->DataW.trod enc P w base spare held fuel t cs=some (d,p)->
  VRels (fun _=>none) (cG w) xs cs.toArray/\∀x,x∈xs->dW x=true
 |0,_,_,_,_,_,_,e,_=>by simp[Ff]at e
 | k+1,fuel,t,cs,d,p,xs,e,h=>by
  have one:∀{x:AV}{v:Value},VRel (fun _=>none) (cG w) x v->dW x=true->VRels (fun _=>none) (cG w) [x] [v].toArray/\∀y,y∈[x]->dW y=true:=by
   intro x v h1 h2;refine⟨⟨rfl,fun j y hj=>?_⟩,fun y hy=>by simp at hy;subst hy;exact h2⟩;cases j with
   |zero=>simp at hj;subst hj;simpa[Array.getD]using h1
   |succ j=>simp at hj
  unfold Ff at e;split at e
  ·rename_i b ht;obtain⟨b',rfl,h1⟩:=DataW.trod_bool ht h;simp at h1 e;obtain⟨rfl,_⟩:=h1;subst e;exact one (.bool _) rfl
  ·rename_i k' k2 n ht;obtain⟨n',rfl,h1,_⟩:=DataW.trod_int ht h;simp at h1 e;obtain⟨⟨rfl,rfl⟩,_⟩:=h1;subst e;exact one (.int _ _) rfl
  ·rename_i s ht;obtain⟨s',rfl,h1,_⟩:=DataW.trod_string ht h;simp at h1 e;obtain⟨rfl,_⟩:=h1;subst e;exact one (.str _) rfl
  ·rename_i e' ht;simp at e;subst e;rcases DataW.trod_slice ht h with⟨rfl,_⟩|⟨a,len,cap,elems,rest,n,_,_,h1,_⟩
   ·exact one .nils rfl
   ·simp at h1
  ·rename_i e' es sp ht;rcases DataW.trod_slice ht h with⟨_,h1⟩|⟨a,len,cap,elems,rest,n,rfl,rfl,h1,h2,h3,h4,h5,h6,_,_⟩
   ·simp at h1
   ·simp only[ub,DataW.slice.injEq]at h1;obtain⟨⟨rfl,rfl⟩,_⟩:=h1;split at e
    ·rename_i ag ys hag hl hsz;simp at e;subst e;rw[dN]at hsz;simp only[decide_eq_true_eq]at hsz;obtain⟨q1,q2⟩:=BC _ _ hl;have q1:ys.length=len:=by simpa[h5]using q1
     have el:∀(i:Nat)(x:AV),ys[i]?=some x->∃cs:List Value,cs.length=P.cellsOf e'/\(∀j,j<P.cellsOf e'->w.cell? ((a.add (i*P.cellsOf e')).add j)=cs[j]?)/\VRels (fun _=>none) (cG w) x.cells cs.toArray/\x.cells.length=P.cellsOf e'/\Sc x:=by
      intro i x hx;have hi:i<len:=by rw[<-q1];exact(gZ.1 hx).1
      obtain⟨d,zs,k1,k2,k3,k4⟩:=q2 i x hx;have k5:=h6 i hi;rw[qO]at k1;cases hel:elems[i]? with
      |none=>rw[hel]at k1;simp at k1
      |some y=>
       rw[hel]at k1 k5;simp at k1;subst k1;simp only[Option.bind_eq_some_iff]at k5;obtain⟨cs,c1,c2⟩:=k5;obtain⟨z1,z2⟩:=DM c1;obtain⟨r1,r2⟩:=ur k n e' cs y.1 y.2 zs k2 c2;obtain⟨r3,r4⟩:=vf k4 r2;exact⟨cs,z1,z2,by rw[r3];exact r1,by rw[r3];exact k3,r4⟩
     have addadd:∀i j:Nat,a.spot=none->(a.add i).add j=⟨a.block,a.off+i+j,none⟩:=by
      intro i j hs;obtain⟨blk,off,spot⟩:=a;simp at hs;subst hs;by_cases hi:i=0<;>by_cases hj:j=0<;>simp[Addr.add,hi,hj]
     have spot:ys≠[]->a.spot=none:=by
      intro hne;obtain⟨x,hx⟩:∃x,ys[0]?=some x:=by
       cases ys with
       |nil=>exact absurd rfl hne
       |cons x r=>exact⟨x,rfl⟩
      obtain⟨cs,c1,c2,_⟩:=el 0 x hx;have:=c2 0 hsz;rw[mn (by omega)]at this;simp only[Nat.zero_mul]at this;have:=(se this).1;simpa[Addr.add]using this
     have cell:∀(i j:Nat)(x:AV),ys[i]?=some x->j<P.cellsOf e'->∃c v,cG w a.block=some c/\c[a.off+i*P.cellsOf e'+j]?=some v/\∀y,x.cells[j]?=some y->VRel (fun _=>none) (cG w) y v:=by
      intro i j x hx hj;obtain⟨cs,c1,c2,c3,c4,_⟩:=el i x hx;have:=c2 j hj;rw[mn (by omega),addadd _ _ (spot (by intro h;rw[h]at hx;simp at hx))]at this;obtain⟨_,c,m1,m2⟩:=se this;refine⟨c,_,m1,m2,fun y hy=>?_⟩;have:=c3.at_ j y hy;rw[iJ]at this;simp only[oE]at this;rw[mn (by omega)]at this;exact this
     refine one ?_ rfl;by_cases hne:ys=[]
     ·subst hne;simp at q1;subst q1;exact .ps (sz:=P.cellsOf e') (c:=#[]) (by simp) (fun h=>by cases h) (fun h=>absurd rfl h) (fun x h=>by simp at h) (fun i x j y h=>by simp at h)
     ·have hlen:0<ys.length:=qN.2 hne;obtain⟨x0,hx0⟩:∃x,ys[ys.length-1]?=some x:=⟨ys[ys.length-1],by simp⟩
      obtain⟨c,v0,m1,m2,_⟩:=cell (ys.length-1) (P.cellsOf e'-1) x0 hx0 (by omega);have hc:=(sI.1 m2).1;have hfit:a.off+ys.length*P.cellsOf e'<=c.size:=by
       have h1:(ys.length-1)*P.cellsOf e'+P.cellsOf e'=ys.length*P.cellsOf e':=by rw[<-qw];congr 1;omega
       omega
      have:=VRel.ps (pl:=fun _=>none) (M:=cG w) (xs:=ys) (tight:=false) (a:=a) (cap:=cap) (sz:=P.cellsOf e') (c:=c) (by omega) (fun h=>by cases h) (fun _=>⟨spot hne,m1,hfit,hsz⟩)
       (fun x hx=>by
        obtain⟨i,hi⟩:=F7.1 hx;obtain⟨_,_,_,_,r1,r2⟩:=el i x hi;exact⟨r1,r2⟩)
       (fun i x j y hx hy=>by
        obtain⟨_,_,_,_,r1,_⟩:=el i x hx;have hj:j<P.cellsOf e':=by rw[<-r1];exact(gZ.1 hy).1
        obtain⟨c',v,n1,n2,n3⟩:=cell i j x hx hj;rw[m1]at n1;cases n1
        rw[iJ,n2];exact n3 y hy)
      rw[q1]at this;exact this
    ·cases e
  ·rename_i fs ds ht;obtain⟨e1,e2⟩:=xH e;obtain⟨zs,n,rfl,h1,h2,h3,h4⟩:=DataW.trod_struct ht h;simp only[ub,DataW.agg.injEq]at h1;obtain⟨rfl,_⟩:=h1;have:=vH (P:=P) (cs:=cs) (f:=Ff P k) (tr:=fun t cs=>DataW.trod enc P w base spare held n t cs) (fun t cs d p xs a b=>ur k n t cs d p xs a b) fs.toList zs 0 xs e1 (fun i x hx=>h4 i x (by simpa using hx)) (by omega);simpa using this
  ·rename_i n0 e' ds ht;obtain⟨e1,e2⟩:=xH e;obtain⟨zs,n,rfl,h1,h2,h3,h4⟩:=DataW.trod_array ht h;simp only[ub,DataW.agg.injEq]at h1;obtain⟨rfl,_⟩:=h1;have:=yY (cs:=cs) (f:=Ff P k e') (tr:=fun cs=>DataW.trod enc P w base spare held n e' cs) (sz:=P.cellsOf e') (fun cs d p xs a b=>ur k n e' cs d p xs a b) zs 0 xs e1 (fun i hi=>by rw[gn];exact h4 i (by omega)) (by omega);simpa using this
  ·cases e
end
end Go.Ev
namespace Go.Ev
open Go Go.ChangeShapes Go.RowKit
section
variable{H:Type}{enc:TypeId×Value->H}{P:Program}{G:fy}{W W':World}
def KB:List (Nat×AV)->fy
 |[]=>fun _=>none
 |p::r=>fun g=>match Nat.beq p.1 g with|true=>some p.2|false=>KB r g
theorem Bw:∀{l:List (Nat×AV)}{g:Nat}{x:AV},KB l g=some x->(g,x)∈l
 |[],g,x,h=>by simp[KB]at h
 |p::r,g,x,h=>by
  simp only[KB,aB]at h;by_cases q:p.1=g
  ·simp[q]at h;subst h;subst q;simp
  ·simp[q]at h;exact dA _ (Bw h)
theorem HF{l:List (Nat×AV)}{pl:Pl}{M:dT}(h:∀p,p∈l->TM pl M p.1 p.2):qr (KB l) pl M:=fun g x hg=>h (g,x) (Bw hg)
theorem E5{l:List (Nat×AV)}(h:(l.all fun p=>Nat.beq p.2.top 0)=true):jc (KB l):=fun g x hg=>by
 have:=kX.1 h _ (Bw hg);simp_all
theorem HH{g:Nat}{cs:Array Value}{t:TypeId}{fr:Nat×Nat}{x:AV}(hc:W.heap[g]?=some (.cells cs t fr))(h:VRels (fun _=>none) (cG W) x.cells cs)(hs:Sc x)(hp:0<x.cells.length):
  TM (fun _=>none) (cG W) g x:=by
 have hM:cG W g=some cs:=by grind[cG]
 have hl:=h.len;have:=VRel.pptr (pl:=fun _=>none) (M:=cG W) (xs:=[x]) (i:=0) (off:=0) (a:=⟨g,0,none⟩) (sz:=x.cells.length) (c:=cs) ⟨rfl,hM,by simp_all,hp⟩
  (fun y hy=>by simp_all) (by simp) (fun i y j z hy hz=>by grind[cases VRels])
 exact⟨by simp_all,cs,hM,hl.symm⟩
theorem AD{laid:List (String×DataW Unit)}{n:String}{d:DataW Unit}(k:Nat){g:Nat}{t:TypeId}{xs:List AV}{x:AV}(h:laidMet P laid W)(hm:(n,d)∈laid)(hg:P.globalNamed n=some g)(ht:(P.globals[g]?).map (·.type)=some t)
  (ha:Ff P k t d=some xs){ag:Bool}(he:wG ag xs=some x)(hp:Nat.blt 0 xs.length=true):TM (fun _=>none) (cG W) g x:=by
 obtain⟨ps,hl,_,_⟩:=h;have key:∀(l:List (String×DataW Unit))(ps:List MemPlace),DataW.LaidVars P W l ps->(n,d)∈l->∃g t cs fuel p,P.globalNamed n=some g/\(P.globals[g]?).map (·.type)=some t/\W.var? P n=some cs/\DataW.trod (fun _=>()) P W 0 (fun _=>true) false fuel t cs.toList=some (d,p):=by
  intro l;induction l with
  |nil=>simp_all
  |cons q r ih=>
   obtain⟨n',d'⟩:=q;intro ps h hm;obtain⟨g,t,cs,fuel,p,q,h1,h2,h3,h4,h5,_⟩:=h;grind
 obtain⟨g',t',cs,fuel,p,h1,h2,h3,h4⟩:=key _ _ hl hm;rw[hg]at h1;cases h1
 rw[ht]at h2;cases h2
 obtain⟨r1,r2⟩:=ur k fuel t cs.toList d p xs ha h4;obtain⟨c1,c2⟩:=vf he r2;have hc:∃t fr,W.heap[g]?=some (.cells cs t fr):=by grind[World.var?]
 obtain⟨t2,fr,hc⟩:=hc;refine HH hc ?_ c2 ?_;all_goals simp_all
theorem VY{f:FuncId}{fn:Func}{c:Code}{args:List AV}{vs:Array Value}(hf:P.funcs[f]?=some fn)(hN:(fn.name== "runtime.NumGoroutine")=false)(hb:fn.body=some c)
  (hG:qr G (fun _=>none) (cG W))(hv:VRels (fun _=>none) (cG W) args vs)(h:aN P G f args AHeap.none (fun v _=>v=.bool true)):
  Calls P f vs W fun e W'=>e=.returned (.bool true)/\Below W.heap.size W W':=by
 have fin:∀cv v h' W',v=.bool true->iD (fun _=>none) (cG W) AHeap.none W v h' cv W'->cv=.bool true/\Below W.heap.size W W':=by
  intro cv v h' W' e ⟨pl',M',k1,k2,k3,k4⟩;subst e;cases k1
  exact⟨rfl,k3.os,k3.tape,k3.out,k3.size,fun b hb=>k3.kept b hb fun id p h=>by simp_all⟩
 rcases h (fun _=>none) (cG W) W vs hG (N1 W) hv with⟨h1,h2⟩|⟨cv,w',v,h',h1,h2,h3⟩
 ·exact Calls.mono h2 fun e w' ⟨cv,v,h',k1,k2,k3⟩=>by grind
 simp_all[callFunc]
theorem sN(hl:laidOutB P=true)(hb:Below W.heap.size W W'):∀{ts:List TypeId}{vs:List Value}{ds:List (DataW H)}{ps:List MemPlace},(ts.all fun t=>P.readableRec t&&decide (t<P.types.size))=true->DataW.TrodAll enc P W 0 (fun _=>true) true ts vs ds ps->(∀x∈ps,x.block<W.heap.size)->
  DataW.TrodAll enc P W' 0 (fun b=>decide (b<W.heap.size)) true ts vs ds ps
 |[],[],[],_,_,h,_=>h
 |t::ts,v::vs,d::ds,ps,hr,h,hlt=>by
  obtain⟨p,q,h1,h2,rfl⟩:=h;simp only[List.all_cons,bZ,decide_eq_true_eq]at hr;exact⟨p,q,hb.trod hl hr.1.1 hr.1.2 h1 (fun x hx=>hlt x (mZ.2 (.inl hx))),sN hl hb hr.2 h2 (fun x hx=>hlt x (mZ.2 (.inr hx))),rfl⟩
 |[],_::_,_,_,_,h,_=>by grind[DataW.TrodAll]
 |[],[],_::_,_,_,h,_=>by grind[DataW.TrodAll]
 |_::_,[],_,_,_,h,_=>by grind[DataW.TrodAll]
 |_::_,_::_,[],_,_,h,_=>by grind[DataW.TrodAll]
theorem Rb{f:Func}{s:ChangeSpec}{args:Array Value}{ds gs:List (DataW H)}{before:List MemPlace}{tb:TypeId}(hl:laidOutB P=true)(hr:(f.params.toList.all fun t=>P.readableRec t&&decide (t<P.types.size))=true)
  (hvars:s.vars=[])(hfn:s.fn H (ds++gs)={results:=[.lit (.bool true)],args:=ds})(hres:f.resultTypes.toList=[tb])(htb:P.underlying tb=some .bool)
  (hW:DataW.Whole enc P f.params.toList s.vars false W args.toList ds gs before)(hb:Below W.heap.size W W'):s.post enc P f false true false false W args (.bool true) W':=by
 have hlt:=hW.lt;have hW0:=hW;obtain⟨p,q,hA,hV,rfl,hz,_⟩:=hW;have hV':=hV;rw[hvars]at hV';obtain⟨rfl,rfl⟩:=trodVars_none hV';simp only[eF]at hlt hz hfn;have hsz:f.resultTypes.size=1:=by rw[<-Array.length_toList,hres];rfl
 refine⟨ds,[],p++[],[],p,[],hW0,?_,?_,?_,hb.frame _,fun h=>by grind⟩
 ·rw[eF,hfn,hres,hsz];exact trodAll_mk1 (shut_bool htb true)
 ·grind[sN]
 ·rw[eF,hfn,hvars];exact rfl
end
section
variable{P:Program}{G:fy}{b:Option Nat}{ops:Array Oper}{l:List Oper}{o:Oper}{s s':St}{h h' h1 hv:AHeap}{v:AV}{A A' F:Fr}{call:cA}{f:FuncId}{args:List AV}{c d:Code}{pl pl':Pl}{M M':dT}{w w':World}{a:Act}{r:Rec}
theorem xb{nk n0:Nat}{g:Nat->Option AObj}{W:Nat->Prop}{o:Oper}(hr:RepF pl M nk g w)(hn0:n0<=hv.n)(hvg:∀id o,hv.get id=some o->g id=some o)(ho:∀id o,hv.get id=some o->o.top<=hv.n)
  (hf:FrRel (dj pl hv.n) M A a)(hg:qr G (dj pl hv.n) M){f:FuncId}{args:List AV}(e:(fC P G o.op).run A hv=some (.call f args))(e2:aN P G f args hv (fun v1 h1=>v1=v/\h1=h'))(hnk:h'.n=hv.n\/h'.n<=nk)
  (hU:∀id,hv.n<=id->id<h'.n->pl id=none)(W1:∀id,id<hv.n->¬W id->hv.get id≠none->h'.get id=hv.get id)
  (W2:∀id,W id->id<hv.n->hv.get id≠none)(W3:∀id,W id->id<h'.n)(W4:∀id,hv.n<=id->id<h'.n->W id)
  {K:Act->World->Prop}{Q:Exit->Act->World->Prop}
  (hK:∀cv w' pl' M',RepF pl' M' nk (kM W g h'.get) w'->StepF n0 g pl M w (kM W g h'.get) pl' M' w'->VRel pl' M' v cv->n8 pl pl'->(∀id,h'.n<=id->pl' id=pl id)->K (a.put o.dst cv) w'):
  o.wp P a w K Q:=by
 obtain⟨vs,k1,k2⟩:=u9 (P:=P) (w:=w) hg hf e;have fin:∀cv w1,iD (dj pl hv.n) M hv w v h' cv w1->K (a.put o.dst cv) w1:=by
  intro cv w1 ⟨pl1,M1,q3,q4,q5,q6⟩;obtain⟨r1,r2,r3,r4⟩:=L7 hr hn0 hvg q4 q5 q6 hnk hU W1 W2 W3 W4;exact hK cv w1 _ M1 r1 r2 (q3.mono r3 (fun _ _ h=>h)) r4 (fun id hid=>by grind[fI])
 unfold Oper.wp;rw[k2];rcases e2 _ M w vs hg (wV hr hvg ho) k1 with⟨q1,q2⟩|⟨cv,w1,v',h'',q1,⟨rfl,rfl⟩,q2⟩
 ·rw[q1];refine Calls.mono q2 fun en w'' ⟨cv,v',h'',e1,hh,e3⟩=>?_
  simp_all
 ·rw[q1];exact fin cv w1 q2
mutual
def ren(ρ:Nat->Nat):AV->AV
 | .ptr id a b c=>.ptr (ρ id) a b c
 | .slice id a b c d=>.slice (ρ id) a b c d
 | .sl0 id a b c=>.sl0 (ρ id) a b c
 | .map id=>.map (ρ id)
 | .func fn a b=>.func fn (mB ρ a) (mB ρ b)
 | .iface t v=>.iface t (ren ρ v)
 | .agg cs=>.agg (mB ρ cs)
 | .tuple cs=>.tuple (mB ρ cs)
 | .ps xs t=>.ps (mB ρ xs) t
 | .ls xs=>.ls xs
 | .pptr xs i o=>.pptr (mB ρ xs) i o
 | .bool b=>.bool b
 | .int k n=>.int k n
 | .str s=>.str s
 | .nilp=>.nilp
 | .nils=>.nils
 | .nilm=>.nilm
 | .nilf=>.nilf
 | .nili=>.nili
def mB(ρ:Nat->Nat):List AV->List AV
 |[]=>[]
 |x::r=>ren ρ x::mB ρ r
end
def kG(ρ:Nat->Nat):List AEnt->List AEnt
 |[]=>[]
 |e::r=>⟨ren ρ e.key,ren ρ e.val,e.born⟩::kG ρ r
def kF(ρ:Nat->Nat):AObj->AObj
 | .row a b c xs=>.row a b c (mB ρ xs)
 | .map es c=>.map (kG ρ es) c
 | .miter m c s=>.miter (ren ρ m) c s
 |o=>o
theorem fE(ρ:Nat->Nat):∀(xs:List AV),mB ρ xs=xs.map (ren ρ)
 |[]=>rfl
 |x::r=>by simp[mB,fE ρ r]
theorem rU(ρ:Nat->Nat):∀(xs:List AEnt),kG ρ xs=xs.map fun e=>⟨ren ρ e.key,ren ρ e.val,e.born⟩
 |[]=>rfl
 |x::r=>by simp[kG,rU ρ r]
theorem sV{a b:Nat}(h:Nat.mx a b=0):a=0/\b=0:=by
 have:=ra.1 (xQ h);omega
mutual
theorem iF(ρ:Nat->Nat):∀(v:AV),v.top=0->ren ρ v=v
 | .ptr ..,h=>by simp[AV.top]at h
 | .slice ..,h=>by simp[AV.top]at h
 | .sl0 ..,h=>by simp[AV.top]at h
 | .map _,h=>by simp[AV.top]at h
 | .func fn a b,h=>by simp only[AV.top]at h;simp only[ren,fm ρ a (sV h).1,fm ρ b (sV h).2]
 | .iface t v,h=>by simp only[AV.top]at h;simp only[ren,iF ρ v h]
 | .agg cs,h=>by simp only[AV.top]at h;simp only[ren,fm ρ cs h]
 | .tuple cs,h=>by simp only[AV.top]at h;simp only[ren,fm ρ cs h]
 | .ps xs t,h=>by simp only[AV.top]at h;simp only[ren,fm ρ xs h]
 | .ls xs,_=>rfl
 | .pptr xs i o,h=>by simp only[AV.top]at h;simp only[ren,fm ρ xs h]
 | .bool b,_=>rfl
 | .int k n,_=>rfl
 | .str s,_=>rfl
 | .nilp,_=>rfl
 | .nils,_=>rfl
 | .nilm,_=>rfl
 | .nilf,_=>rfl
 | .nili,_=>rfl
theorem fm(ρ:Nat->Nat):∀(vs:List AV),az vs=0->mB ρ vs=vs
 |[],_=>rfl
 |x::r,h=>by
  simp only[az]at h;simp only[mB,iF ρ x (sV h).1,fm ρ r (sV h).2]
end
theorem gi(ρ:Nat->Nat)(v:AV):(ren ρ v).cells=v.cells.map (ren ρ):=by cases v<;>simp[ren,AV.cells,fE]
theorem oF(ρ:Nat->Nat)(v:AV):dW (ren ρ v)=dW v:=by cases v<;>rfl
def kY(ρ:Nat->Nat)(n:Nat)(pl:Pl):Pl:=fun id=>if id<n then pl (ρ id)else none
theorem uI{ρ:Nat->Nat}{n id:Nat}{p:Place}(h:id<n)(hp:pl (ρ id)=some p):kY ρ n pl id=some p:=by grind[kY]
theorem VRel.ren{ρ:Nat->Nat}{n:Nat}{u v:AV}{x:Value}(h:VRel pl M u x)(hu:u=Ev.ren ρ v)(ht:v.top<=n):VRel (kY ρ n pl) M v x:=by
 have elem:∀{xs:List AV}{i:Nat}{z:AV},xs[i]?=some z->(xs.map (Ev.ren ρ))[i]?=some (Ev.ren ρ z):=by grind
 have cel:∀{z y:AV}{j:Nat},z.cells[j]?=some y->(Ev.ren ρ z).cells[j]?=some (Ev.ren ρ y):=by grind[gi]
 have tp:∀{xs:List AV}{i j:Nat}{z y:AV},az xs<=n->xs[i]?=some z->z.cells[j]?=some y->y.top<=n:=by
  intro xs i j x y h1 h2 h3;exact lH (eJ.1 h1 x (bH h2)) (bH h3)
 have sc:∀{xs:List AV}{sz:Nat},(∀x,x∈xs.map (Ev.ren ρ)->x.cells.length=sz/\Sc x)->∀x,x∈xs->x.cells.length=sz/\Sc x:=by
  intro xs sz h x hx;obtain⟨h1,h2⟩:=h (Ev.ren ρ x) (F3 hx);rw[gi]at h1;refine⟨by simp_all,fun y hy=>?_⟩;have:=h2 (Ev.ren ρ y) (by grind[gi]);grind[oF]
 induction h generalizing v with
 |bool b=>cases v<;>simp[Ev.ren]at hu;subst hu;exact .bool _
 |int k n=>cases v<;>simp[Ev.ren]at hu;obtain⟨rfl,rfl⟩:=hu;exact .int _ _
 |str s=>cases v<;>simp[Ev.ren]at hu;subst hu;exact .str _
 |nilp=>cases v<;>simp[Ev.ren]at hu;exact .nilp
 |ptr hp he ha=>
  cases v<;>simp[Ev.ren]at hu
  obtain⟨rfl,rfl,rfl,rfl⟩:=hu;simp only[AV.top]at ht;exact .ptr (uI (by omega) hp) he ha
 |pptr hm hs hi hc ih=>
  cases v<;>simp[Ev.ren]at hu
  obtain⟨h1,rfl,rfl⟩:=hu;rw[fE]at h1;subst h1;simp only[AV.top]at ht;refine .pptr ⟨hm.1,hm.2.1,by simp_all,hm.2.2.2⟩ (sc hs) (by simp_all) (fun i z j y k1 k2=>ih i _ j _ (elem k1) (cel k2) rfl (tp ht k1 k2))
 |nils=>cases v<;>simp[Ev.ren]at hu;exact .nils
 |slice hp he hl hk ha=>
  cases v<;>simp[Ev.ren]at hu
  obtain⟨rfl,rfl,rfl,rfl,rfl⟩:=hu;simp only[AV.top]at ht;exact .slice (uI (by omega) hp) he hl hk ha
 |sl0n _ ih=>
  cases v<;>simp[Ev.ren]at hu
  obtain⟨rfl,rfl,rfl,rfl⟩:=hu;exact .sl0n (ih (v:=.ls []) rfl (b8 _))
 |sl0s _ ih=>
  cases v<;>simp[Ev.ren]at hu
  obtain⟨rfl,rfl,rfl,rfl⟩:=hu;exact .sl0s (ih (v:=.slice _ _ 0 _ _) rfl ht)
 |ps hl ht' hm hs hc ih=>
  cases v<;>simp[Ev.ren]at hu
  obtain⟨h1,rfl⟩:=hu;rw[fE]at h1;subst h1;simp only[AV.top]at ht;have:=VRel.ps (pl:=kY ρ n pl) (by simpa using hl) (by simpa using ht') (by simp_all) (sc hs) (fun i z j y k1 k2=>ih i _ j _ (elem k1) (cel k2) rfl (tp ht k1 k2));simp_all
 |lsn=>
  cases v<;>simp[Ev.ren]at hu
  subst hu;exact .lsn
 |lsp h ht0 ih=>
  cases v<;>simp[Ev.ren]at hu
  subst hu;exact .lsp (ih (v:=.ps _ false) (by grind[Ev.ren,fm]) (by grind[AV.top])) ht0
 |nilm=>cases v<;>simp[Ev.ren]at hu;exact .nilm
 |map hp ha=>
  cases v<;>simp[Ev.ren]at hu
  subst hu;simp only[AV.top]at ht;exact .map (uI (by omega) hp) ha
 |func h1 h2 h3 h4 ih1 ih2=>
  cases v<;>simp[Ev.ren]at hu
  obtain⟨rfl,e1,e2⟩:=hu;rw[fE]at e1 e2;subst e1;subst e2;simp only[AV.top,ra]at ht;exact .func (by simp_all) (by simp_all) (fun j y hj=>ih1 j _ (elem hj) rfl (eJ.1 ht.1 y (bH hj))) (fun j y hj=>ih2 j _ (elem hj) rfl (eJ.1 ht.2 y (bH hj)))
 |nilf=>cases v<;>simp[Ev.ren]at hu;exact .nilf
 |iface _ ih=>
  cases v<;>simp[Ev.ren]at hu
  obtain⟨rfl,e1⟩:=hu;simp only[AV.top]at ht;exact .iface (ih e1 ht)
 |nili=>cases v<;>simp[Ev.ren]at hu;exact .nili
 |agg h1 h2 _ ih=>
  cases v<;>simp[Ev.ren]at hu
  rw[fE]at hu;subst hu;simp only[AV.top]at ht;refine .agg (by simp_all) (fun y hy=>?_) (fun j y hj=>ih j _ (elem hj) rfl (eJ.1 ht y (bH hj)));grind[List.mem_map_of_mem,oF]
 |tuple h1 _ ih=>
  cases v<;>simp[Ev.ren]at hu
  rw[fE]at hu;subst hu;simp only[AV.top]at ht;exact .tuple (by simp_all) (fun j y hj=>ih j _ (elem hj) rfl (eJ.1 ht y (bH hj)))
theorem bm.ren{ρ:Nat->Nat}{n:Nat}{o:AObj}{p:Place}{x:Option Obj}(h:bm pl M p (kF ρ o) x)(ht:o.top<=n):bm (kY ρ n pl) M p o x:=by
 match o,x with
 | .dead,_=>trivial
 | .row sz op ep xs,some (.cells c t fr)=>
  obtain⟨h1,h2,h3,h4,h5,h6,h7,h8⟩:=h;rw[fE]at h3 h7 h8;simp only[cJ]at h3 h7;simp only[AObj.top]at ht;refine⟨h1,h2,h3,h4,h5,h6,h7,⟨by simpa using h8.fit,fun y hy=>?_,fun i z j y k1 k2=>?_⟩⟩
  ·obtain⟨q1,q2⟩:=h8.elem (Ev.ren ρ y) (F3 hy);rw[gi]at q1;refine⟨by simp_all,fun u hu=>?_⟩;have:=q2 (Ev.ren ρ u) (by grind[gi]);grind[oF]
  ·exact(h8.cell i (Ev.ren ρ z) j (Ev.ren ρ y) (by simp_all) (by grind[gi])).ren rfl (lH (eJ.1 ht z (bH k1)) (bH k2))
 | .map es clock,some (.map entries clock')=>
  obtain⟨h1,h2,h3,h4⟩:=h;rw[rU]at h3 h4;simp only[AObj.top]at ht;refine⟨h1,h2,by simp_all,fun i e hi=>?_⟩;obtain⟨e',k1,k2,k3,k4⟩:=h4 i ⟨Ev.ren ρ e.key,Ev.ren ρ e.val,e.born⟩ (by simp_all);have:=qZ.1 ht e (bH hi);exact⟨e',k1,k2.ren rfl this.1,k3.ren rfl this.2,k4⟩
 | .siter s pos,some (.stringIter s' pos')=>exact h
 | .miter m clock seen,some (.mapIter m' since seen' stepped)=>simp only[AObj.top]at ht;exact⟨h.1,h.2.1,h.2.2.1.ren rfl ht,h.2.2.2⟩
end
noncomputable def eR(h:AHeap):Nat->Nat->Option (List AObj)
 |0,_=>some []
 |k+1,i=>match h.get i with
  |some o=>match eR h k (i+1)with|some l=>some (o::l)|none=>none
  |none=>none
section
variable{P:Program}{G:fy}{b:Option Nat}{ops:Array Oper}{l:List Oper}{o:Oper}{s s':St}{h h':AHeap}{v:AV}{A A':Fr}{call:cA}{f:FuncId}{args:List AV}{c d:Code}
theorem eB:∀(k i:Nat)(os:List AObj),eR h k i=some os->os.length=k/\∀(j:Nat)(o:AObj),os[j]?=some o->h.get (i+j)=some o
 |0,i,os,e=>by simp[eR]at e;subst e;exact⟨rfl,fun j o h=>by simp at h⟩
 | k+1,i,os,e=>by
  simp only[eR]at e;cases hq:h.get i with
  |none=>rw[hq]at e;simp at e
  | some o'=>
   cases hr:eR h k (i+1)with
   |none=>rw[hq,hr]at e;simp at e
   |some r=>
    rw[hq,hr]at e;simp at e;subst e;obtain⟨h1,h2⟩:=eB k (i+1) r hr;refine⟨by simp[h1],fun j o hj=>?_⟩;cases j with
    |zero=>simp at hj;subst hj;simpa using hq
    |succ j=>rw[show i+(j+1)=i+1+j by omega];exact h2 j o (by simpa using hj)
end
end Go.Ev
namespace Go.Ev
open Go
abbrev WA:Ids:=⟨false,[],0,0⟩
abbrev rd(ids:List Nat):Rec:=⟨⟨false,ids,0,0⟩,WA⟩
abbrev wr(ids:List Nat)(n m:Nat):Rec:=⟨⟨false,ids,0,0⟩,⟨false,ids,n,m⟩⟩
abbrev cl(n:Nat):Rec:=⟨⟨true,[],n,n⟩,WA⟩
noncomputable abbrev dop(P:Program)(G:fy)(ops:Array Oper)(o:Oper):DOper:=⟨b0 P G ops o,o.looksAt ops,dG o.op,dK o.op,0⟩
section
variable{P:Program}{G:fy}{b:Option Nat}{ops:Array Oper}{l rest:List Oper}{o:Oper}{h h' h1:AHeap}{v:AV}{call:cA}{f:FuncId}{args:List AV}{k n t:Nat}{L:List (Nat×AV)}{rs:List Rec}{Φ:Fr->AHeap->Prop}
theorem tJ.step{F F':Fr}{r:Rec}(hs:DSpec P G ops o (o.looksAt ops) F h v h1 r)(hcl:l0 (fq (eC ops.toList 0 []) k) r rs k=true)(hp:je F o.dst v=some F')(next:tJ P G ops (k+1) rest F' h1 (r::rs) Φ):
  tJ P G ops k (o::rest) F h rs Φ:=⟨v,h1,r,F',hs,hcl,hp,next⟩
theorem tJ.done{F:Fr}(hn:Nat.ble h.n 1000000=true)(h0:Φ F h):tJ P G ops k [] F h rs Φ:=⟨by rw[ba]at hn;simpa using hn,h0⟩
end
section
variable{P:Program}{G:fy}{b:Option Nat}{ops:Array Oper}{l:List Oper}{s:St}{call:cA}
end
def Le(u v:AV):Prop:=∀(pl:Pl)(M:dT)(x:Value),VRel pl M v x->VRel pl M u x
theorem Le.refl(v:AV):Le v v:=fun _ _ _ h=>h
theorem Le.trans{a b c:AV}(h:Le a b)(k:Le b c):Le a c:=fun pl M x hx=>h pl M x (k pl M x hx)
theorem Le.nils:Le (.ls []) .nils:=fun _ _ _ h=>by cases h;exact .lsn
theorem Le.ps(xs:List AV)(t:Bool)(h0:az xs=0):Le (.ls xs) (.ps xs t):=fun _ _ _ h=>.lsp h.loose h0
theorem Le.loose(xs:List AV)(t:Bool):Le (.ps xs false) (.ps xs t):=fun _ _ _ h=>h.loose
inductive Les:List AV->List AV->Prop
 |nil:Les [] []
 |cons {u v:AV} {us vs:List AV} (h:Le u v) (k:Les us vs):Les (u::us) (v::vs)
theorem Les.refl:∀(vs:List AV),Les vs vs
 |[]=>.nil
 |v::r=>.cons (Le.refl v) (Les.refl r)
theorem Les.len{us vs:List AV}(h:Les us vs):us.length=vs.length:=by
 induction h with
 |nil=>rfl
 |cons _ _ ih=>simp_all
theorem Les.at_{us vs:List AV}(h:Les us vs):∀(j:Nat)(u:AV),us[j]?=some u->∃v,vs[j]?=some v/\Le u v:=by
 induction h with
 |nil=>simp_all
 |cons h k ih=>grind
theorem VRels.le{pl:Pl}{M:dT}{us vs:List AV}{xs:Array Value}(h:VRels pl M vs xs)(hl:Les us vs):VRels pl M us xs:=
 ⟨hl.len.trans h.len,fun j u hj=>by
  obtain⟨v,h1,h2⟩:=hl.at_ j u hj;exact h2 _ _ _ (h.at_ j v h1)⟩
theorem Le.agg{us vs:List AV}(h:Les us vs)(hs:∀u,u∈us->dW u=true):Le (.agg us) (.agg vs):=by
 intro pl M x hx;cases hx with
 |agg h1 h2 h3=>
  refine .agg (h.len.trans h1) hs fun j u hj=>?_
  obtain⟨v,k1,k2⟩:=h.at_ j u hj;exact k2 _ _ _ (h3 j v k1)
theorem Le.tuple{us vs:List AV}(h:Les us vs):Le (.tuple us) (.tuple vs):=by
 intro pl M x hx;cases hx with
 |tuple h1 h3=>
  refine .tuple (h.len.trans h1) fun j u hj=>?_
  obtain⟨v,k1,k2⟩:=h.at_ j u hj;exact k2 _ _ _ (h3 j v k1)
section
variable{P:Program}{G:fy}{b:Option Nat}{ops:Array Oper}{l:List Oper}{o:Oper}{s s':St}{h h':AHeap}{v:AV}{A A':Fr}{f:FuncId}{args args':List AV}{c:Code}{n t:Nat}{L:List (Nat×AV)}
theorem aN.onArgs{Ψ:AV->AHeap->Prop}(hl:Les args' args)(hc:aN P G f args' h Ψ):aN P G f args h Ψ:=fun pl M w vs hg hr hv=>hc pl M w vs hg hr (hv.le hl)
theorem bY.onArgs(hl:Les args' args)(hc:bY P G f args' v):bY P G f args v:=fun h=>(hc h).onArgs hl
theorem aN.less{Ψ Ψ':AV->AHeap->Prop}(hc:aN P G f args h Ψ)(hi:∀v h',Ψ v h'->∃u,Le u v/\Ψ' u h'):aN P G f args h Ψ':=by
 intro pl M w vs hg hr hv;have key:∀cv v h' w',Ψ v h'->iD pl M h w v h' cv w'->∃u,Ψ' u h'/\iD pl M h w u h' cv w':=by
  intro cv v h' w' hp ⟨pl',M',k1,k2⟩;obtain⟨u,e1,e2⟩:=hi v h' hp;exact⟨u,e2,pl',M',e1 _ _ _ k1,k2⟩
 rcases hc pl M w vs hg hr hv with⟨h1,h2⟩|⟨cv,w',v,h',h1,h2,h3⟩
 ·refine .inl ⟨h1,Calls.mono h2 fun e w' ⟨cv,v,h',k1,k2,k3⟩=>?_⟩;grind
 ·obtain⟨u,z1,z2⟩:=key cv v h' w' h2 h3;exact .inr ⟨cv,w',u,h',h1,z1,z2⟩
theorem bY.less{u:AV}(hc:bY P G f args v)(hl:Le u v):bY P G f args u:=fun h=>(hc h).less fun v1 h1 ⟨e1,e2⟩=>⟨u,by simp_all,rfl,e2⟩
end
abbrev aj(b:Bool):Bool:=Bool.not b
theorem bc(x:Int):aa x x=true:=by cases x<;>exact qH _
def ke(x y:Int):Int:=match aL x y with|true=> -1|false=>match aL y x with|true=>1|false=>0
section
variable{P:Program}{G:fy}{b:Option Nat}{c:Code}{s:St}
end
theorem oP{b:Bool}(h:aj b=true):b=false:=by simp_all
theorem ry{b:Bool}(h:aj b=false):b=true:=by simp_all
theorem L3{α β:Type}(f:α->β):∀(xs:List α)(i:Nat),jP (xs.map f) i=(jP xs i).map f
 |[],_=>rfl
 |_::_,0=>rfl
 |_::r,i+1=>L3 f r i
theorem pB{α:Type}:∀(xs:List α)(i:Nat),jP xs i=xs[i]?
 |[],i=>by simp[jP]
 |_::_,0=>rfl
 |_::r,i+1=>by simp[jP,pB r i]
theorem Nu{i:Nat}(h:i+1<2^63):IntKind.i64.wrap (Int.ofNat i+1)=Int.ofNat (i+1):=by grind[IntKind.wrap,IntKind.bits]
theorem MX(a b:Nat):aL (.ofNat a) (.ofNat b)=Nat.blt a b:=rfl
theorem KS{a b:Nat}(h:a<b):Nat.blt a b=true:=uf h
theorem Q5{a b:Nat}(h:Nat.blt a b=true):a<b:=v8 h
theorem Nc{a b:Nat}(h:¬a<b):Nat.blt a b=false:=by
 cases q:Nat.blt a b with
 |false=>rfl
 |true=>exact absurd (Q5 q) h
theorem XN{a b:Nat}(h:a<b):aL (.ofNat a) (.ofNat b)=true:=KS h
theorem VK{a b:Nat}(h:b<=a):aL (.ofNat a) (.ofNat b)=false:=by
 rw[MX];cases q:Nat.blt a b with
 |false=>rfl
 |true=>exact absurd (Q5 q) (by omega)
theorem wA{a b:Int}:aL a b=decide (a<b):=by
 cases a with
 |ofNat a=>cases b with
  |ofNat b=>grind[MX,KS,Nc]
  |negSucc b=>exact(decide_eq_false (fun h=>by grind)).symm
 | negSucc a=>cases b with
  |ofNat b=>exact(decide_eq_true (by grind)).symm
  |negSucc b=>
   show Nat.blt b a=_
   grind[KS,Nc]
section
variable{P:Program}{G:fy}{b:Option Nat}{c d:Code}{s:St}{n:Nat}{ops:Array Oper}{l:List Oper}{o:Oper}{h:AHeap}{v:AV}{L:List (Nat×AV)}
theorem JJ{Φ:AExit->St->Prop}{x:Operand}{t:Bool}(h:t=true)(hx:(cE G x).run s.tmps=some (.bool t))(h1:ar P G b c s Φ):ar P G b (.cond x c d) s Φ:=ar.cond hx (fun _=>h1) (fun k=>by grind)
theorem JK{Φ:AExit->St->Prop}{x:Operand}{t:Bool}(h:t=false)(hx:(cE G x).run s.tmps=some (.bool t))(h1:ar P G b d s Φ):ar P G b (.cond x c d) s Φ:=ar.cond hx (fun k=>by grind) (fun _=>h1)
def Lj(fs:List FuncId)(call:cA):cA:=fun f args h=>match jq f fs with|true=>none|false=>call f args h
theorem zy{call:cA}(fs:List FuncId)(hc:cL P G call):cL P G (Lj fs call):=by
 intro f args h v h' e;unfold Lj at e;split at e
 ·grind
 ·exact hc f args h v h' e
end
noncomputable def bb(h:AHeap):Nat->Option (List AObj)
 |0=>some []
 |k+1=>match bb h k,h.get k with|some l,some o=>some (l++[o])|_,_=>none
section
variable{P:Program}{G:fy}{c:Code}{n:Nat}{L:List (Nat×AV)}{h0:AHeap}
end
def ca(G:fy)(b:Option Nat)(s s':St):Prop:=∀(N:Nat)(h0:AHeap)(pl0:Pl)(M0:dT)(w0:World)(a:Act)(w:World),Wh b h0 pl0->SNow G N h0 pl0 M0 w0 s a w->SNow G N h0 pl0 M0 w0 s' a w
noncomputable section
def frzP(h:AHeap)(k n:Nat)(v:AV):Option AV:=
 match v with
 | .ptr id ep i off=>
  match Nat.blt id n with
  |true=>some v
  | false=>match h.get id with
   | some (.row _ _ ep' xs)=>
    match Nat.beq ep ep'&&Nat.blt i xs.length with
    |true=>match tH (frz h k n) xs with
     |some ys=>some (.pptr ys i off)
     |none=>none
    |false=>none
   |_=>none
 |v=>frz h k n v
def SZ(h:AHeap)(k n:Nat)(v:AV):Option AV:=
 match v with
 | .func fn a b=>match tH (frz h k n) a,tH (frzP h k n) b with
  |some a,some b=>some (.func fn a b)
  |_,_=>none
 |v=>frzP h k n v
def frzL(A:Fr)(h:AHeap)(n:Nat):List Nat->Option (List (Nat×AV))
 |[]=>some []
 | t::r=>match A.get t with
  | some v=>match SZ h kz n v with
   |some u=>match frzL A h n r with
    |some L=>some ((t,u)::L)
    |none=>none
   |none=>none
  |none=>none
end
mutual
def iI(ids:List Nat):AV->Bool
 | .ptr id ..=>jq id ids
 | .slice id ..=>jq id ids
 | .sl0 id ..=>jq id ids
 | .map id=>jq id ids
 | .func _ a b=>lL ids a&&lL ids b
 | .iface _ v=>iI ids v
 | .agg cs=>lL ids cs
 | .tuple cs=>lL ids cs
 | .ps xs _=>lL ids xs
 | .pptr xs _ _=>lL ids xs
 |_=>true
def lL(ids:List Nat):List AV->Bool
 |[]=>true
 |x::r=>iI ids x&&lL ids r
end
def yi(ids:List Nat):List AEnt->Bool
 |[]=>true
 |e::r=>iI ids e.key&&iI ids e.val&&yi ids r
def um(ids:List Nat):AObj->Bool
 | .row _ _ _ xs=>lL ids xs
 | .map es _=>yi ids es
 | .miter m _ _=>iI ids m
 |_=>true
def kU(id:Nat):List Nat->Nat->Nat
 |[],_=>0
 |x::r,i=>match Nat.beq x id with|true=>i|false=>kU id r (i+1)
def gy:List Nat->Nat->Nat
 |[],_=>0
 |x::r,i=>match i with|0=>x|k+1=>gy r k
noncomputable section
def N3(A:Fr)(ids:List Nat):List Nat->Option (List (Nat×AV))
 |[]=>some []
 | t::r=>match A.get t with
  | some v=>match iI ids v with
   |true=>match N3 A ids r with
    |some L=>some ((t,ren (fun i=>kU i ids 0) v)::L)
    |none=>none
   |false=>none
  |none=>none
def Ax:List Nat->Bool
 |[]=>true
 |x::r=>!jq x r&&Ax r
def BX(ids:List Nat):Nat->Bool
 |0=>true
 |k+1=>Nat.beq (gy ids k) k&&Nat.blt k ids.length&&BX ids k
end
section
variable{P:Program}{G:fy}{b:Option Nat}{ops:Array Oper}{l:List Oper}{o:Oper}{s s':St}{h h':AHeap}{v:AV}{A A':Fr}{f:FuncId}{args:List AV}{c:Code}{n t:Nat}{L:List (Nat×AV)}{pl pl':Pl}{M M':dT}{w w':World}
theorem ca.refl(s:St):ca G b s s:=fun _ _ _ _ _ _ _ _ h=>h
theorem ca.trans{s1 s2 s3:St}(h:ca G b s1 s2)(k:ca G b s2 s3):ca G b s1 s3:=fun N h0 pl0 M0 w0 a w hb hs=>k N h0 pl0 M0 w0 a w hb (h N h0 pl0 M0 w0 a w hb hs)
theorem ca.sub(hS:SubSt s' s):ca G b s s':=fun _ _ _ _ _ _ _ _ hs=>hS.now hs
theorem ar.weak{Φ:AExit->St->Prop}(hW:ca G b s s')(h:ar P G b c s' Φ):ar P G b c s Φ:=fun N h0 pl0 M0 w0 a w Q hb hs hQ=>h N h0 pl0 M0 w0 a w Q hb (hW N h0 pl0 M0 w0 a w hb hs) hQ
theorem cH.weak{Φ:St->Prop}(hW:ca G b s s')(h:cH P G b ops l s' Φ):cH P G b ops l s Φ:=fun i N h0 pl0 M0 w0 a w Q hb hl hs hQ=>h i N h0 pl0 M0 w0 a w Q hb hl (hW N h0 pl0 M0 w0 a w hb hs) hQ
theorem ca.fr(hn:A'.n=A.n)(hF:∀t u,A'.get t=some u->∃v,A.get t=some v/\Le u v):ca G b ⟨A,h⟩ ⟨A',h⟩:=by
 intro N h0 pl0 M0 w0 a w hb ⟨⟨pl,M,g1,g2,g3,g4,g5⟩,k1,k2⟩;refine⟨⟨pl,M,g1,g2,⟨by grind[cases FrRel],g3.defers,fun t u ht=>?_⟩,g4,g5⟩,hn.trans k1,k2⟩;obtain⟨v,e1,e2⟩:=hF t u ht;obtain⟨q1,q2⟩:=g3.at_ t v e1;exact⟨by simp_all,e2 _ _ _ q2⟩
theorem ca.put{u:AV}(hs:A.n<=60000)(hv:A.get t=some v)(hl:Le u v)(hp:je A (some t) u=some A'):ca G b ⟨A,h⟩ ⟨A',h⟩:=by
 have hp':A.put t u=some A':=hp;have hn:A'.n=A.n:=by
  unfold Fr.put at hp';grind
 refine ca.fr hn fun t' u' ht=>?_
 obtain⟨_,_,h3⟩:=Fr.get_put hs hp' ht;grind[Le.refl]
theorem Le.elem{xs:List AV}{i off:Nat}{x:AV}(hx:jP xs i=some x):Le (.pptr [x] 0 off) (.pptr xs i off):=by
 rw[pB]at hx;intro pl M y hy;cases hy with
 | pptr hm hs hi hc=>
  rename_i a sz c;have hle:(i+1)*sz<=xs.length*sz:=fV _ hi;have:=VRel.pptr (pl:=pl) (M:=M) (xs:=[x]) (i:=0) (off:=off) (a:=⟨a.block,a.off+i*sz,none⟩) (sz:=sz) (c:=c) ⟨rfl,hm.2.1,by
   grind,hm.2.2.2⟩ (fun z hz=>by
    grind) (by simp) (fun k z j y' hk hj=>by
    grind)
  simp_all
theorem M8(hr:cN pl M h w){n:Nat}{Md:dT}(hmd:qF M Md)
  (hd:∀id p sz op ep xs c t fr,n<=id->pl id=some p->h.get id=some (.row sz op ep xs)->w.heap[p.blk]?=some (.cells c t fr)->Md p.blk=some c)
  (k:Nat)(v v':AV)(x:Value)(hv:VRel pl M v x)(e:frzP h k n v=some v'):VRel (dj pl n) Md v' x:=by
 unfold frzP at e;split at e
 ·rename_i id ep i off;rw[dN]at e;by_cases hid:id<n
  ·simp[hid]at e;subst e;exact hv.agree (n:=n) (by grind[AV.top]) ee hmd
  ·simp only[hid,decide_false]at e;split at e
   ·rename_i sz op ep' xs hgo;split at e
    ·rename_i hck;simp only[aB,dN,bZ,decide_eq_true_eq]at hck;obtain⟨rfl,hi⟩:=hck;split at e
     ·rename_i ys hys;cases e
      cases hv with
      | ptr hp he ha=>
       rename_i a p;have ho:=hr.obj id p _ hp hgo;cases hb:w.heap[p.blk]? with
       |none=>grind[bm]
       | some ob=>
        rw[hb]at ho;cases ob<;>simp only[bm]at ho
        rename_i c t fr;obtain⟨g1,g2,g3,g4,g5,g6,g7,g8⟩:=ho;have ha:=ha g1.symm;subst ha;obtain⟨m1,m2⟩:=gm hys;have cells:∀(i:Nat)(x y:AV),xs[i]?=some x->frz h k n x=some y->fh x=true:=by
         intro i x y h1 h2;have he:=(g8.elem x (bH h1)).2;cases x<;>first|rfl|skip
         exact absurd (he _ (by simp[AV.cells];rfl)) (by simp[dW])
        have hfit:=g8.fit;have:=VRel.pptr (pl:=dj pl n) (M:=Md) (xs:=ys) (i:=i) (off:=off) (a:=⟨p.blk,0,none⟩) (sz:=p.sz) (c:=c)
         ⟨rfl,hd _ _ _ _ _ _ _ _ _ (by omega) hp hgo hb,by simp_all,by omega⟩ (fun y hy=>by
          obtain⟨j,hj⟩:=Cr hy;obtain⟨x,k1,k2⟩:=m2 j y hj;have he:=g8.elem x (bH k1);grind[o8]) (by omega) (fun j y q u hj hu=>by
          obtain⟨x,k1,k2⟩:=m2 j y hj;have he:=g8.elem x (bH k1);grind[o8,mE,cases InMem])
        simp_all
     grind
    grind
   grind
 grind[mE]
theorem Vs(hr:cN pl M h w){n:Nat}{Md:dT}(hmd:qF M Md)
  (hd:∀id p sz op ep xs c t fr,n<=id->pl id=some p->h.get id=some (.row sz op ep xs)->w.heap[p.blk]?=some (.cells c t fr)->Md p.blk=some c)
  (k:Nat)(v v':AV)(x:Value)(hv:VRel pl M v x)(e:SZ h k n v=some v'):VRel (dj pl n) Md v' x:=by
 unfold SZ at e;split at e
 ·split at e
  ·rename_i fn a b a' b' ha hb;cases e
   cases hv with
   |func h1 h2 h3 h4=>
    obtain⟨m1,m2⟩:=gm ha;obtain⟨m3,m4⟩:=gm hb;refine .func (m1▸h1) (m3▸h2) (fun j y hj=>?_) (fun j y hj=>?_);all_goals grind[mE,M8]
  grind
 grind[M8]
theorem rp:∀{ts:List Nat}{L:List (Nat×AV)},frzL A h n ts=some L->∀t u,(t,u)∈L->∃v,A.get t=some v/\SZ h kz n v=some u
 |[],L,e,t,u,hm=>by grind[frzL]
 | x::r,L,e,t,u,hm=>by
  simp only[frzL]at e;split at e
  ·rename_i v hv;split at e
   ·rename_i y hy;split at e
    ·rename_i L' hL;simp at e;subst e;rcases dP.1 hm with k|k
     ·simp_all
     ·exact rp hL t u k
    ·grind
   ·grind
  ·grind
def Plain(h:AHeap)(n:Nat)(v u:AV):Prop:=∀(pl:Pl)(M Md:dT)(w:World)(x:Value),cN pl M h w->qF M Md->
 (∀id p sz op ep xs c t fr,n<=id->pl id=some p->h.get id=some (.row sz op ep xs)->w.heap[p.blk]?=some (.cells c t fr)->Md p.blk=some c)->VRel pl M v x->VRel (dj pl n) Md u x
theorem Plain.frz{h:AHeap}{n k:Nat}{v u:AV}(e:SZ h k n v=some u):Plain h n v u:=fun _ _ _ _ x hr hmd hd hv=>Vs hr hmd hd k v u x hv e
theorem Plain.slice{h:AHeap}{n id ep off len sz:Nat}{cap:Option Nat}{op:Bool}{xs ys:List AV}(hgo:h.get id=some (.row sz op ep xs))(hid:n<=id)(hy:(xs.drop off).take len=ys)(ht:az ys=0):
  Plain h n (.slice id ep off len cap) (.ps ys (oO cap (some len))):=by
 intro pl M Md w x hr hmd hd hv;cases hv with
 | slice hp hle hl hk ha=>
  rename_i cap' a p;have ho:=hr.obj id p _ hp hgo;cases hb:w.heap[p.blk]? with
  |none=>grind[bm]
  | some ob=>
   rw[hb]at ho;cases ob<;>simp only[bm]at ho
   rename_i c t fr;obtain⟨g1,g2,g3,g4,g5,g6,g7,g8⟩:=ho;obtain⟨q1,q2,q3,q4,q5⟩:=ha (by omega);have hlen:ys.length=len:=by grind
   have src:∀(i:Nat)(y:AV),ys[i]?=some y->xs[off+i]?=some y/\i<len:=by grind
   have hys0:ys≠[]->a=⟨p.blk,off*p.sz,none⟩:=by
    intro hne;rcases q1 with hc0|hc1
    all_goals simp_all
   have hfit:off*p.sz+ys.length*p.sz<=c.size:=by
    rw[<-g4]
    calc off*p.sz+ys.length*p.sz=(off+ys.length)*p.sz:=by grind
     _<=(off+cap')*p.sz:=fV _ (by omega)
     _<=p.tot:=q2
   rw[<-hlen];refine VRel.ps (sz:=p.sz) (c:=c) (by omega) (fun ht=>?_) (fun hne=>?_) (fun y hy=>?_) (fun i y j u hi hu=>?_)
   ·cases cap with
    |none=>grind[oO]
    |some cc=>grind[oO,aB]
   ·grind
   ·grind[cases InMem]
   ·have hne:ys≠[]:=fun h0=>by simp_all
    rw[hys0 hne];obtain⟨k1,k2⟩:=src i y hi;have hz:=g8.cell _ _ j u k1 hu;have htop:u.top<=n:=bu (lH (eJ.1 (xQ ht) y (bH hi)) (bH hu)) (b8 _);have:=hz.agree htop ee hmd;grind
theorem ca.frzP(hG:jc G){m k:Nat}{L:List (Nat×AV)}(hm:m<=k)(hk:k<=s.heap.n)(hc:fN s.heap k k=true)(e:∀t u,(t,u)∈L->∃v,s.tmps.get t=some v/\Plain s.heap k v u):ca G (some m) s ⟨eE s.tmps.n L,s.heap.cut k⟩:=by
 intro N h0 pl0 M0 w0 a w hb ⟨⟨pl,M,g1,g2,g3,g4,g5⟩,k1,k2⟩;obtain⟨b1,b2⟩:=hb m rfl;have hlow:∀id p,pl0 id=some p->id<k:=fun id p hp=>F5 (b2 id p hp) hm
 refine⟨⟨dj pl k,mw pl M w k,(g1.none hG).mono (n8.refl _) (f9 k),g2.dropped hk (fun id o q1 q2=>gL k hc id o q1 q2),⟨g3.size,g3.defers,fun t u ht=>?_⟩,⟨?_,?_,?_,g4.size,g4.kept,?_,?_,?_,?_,g4.os,g4.tape,g4.out,g4.drawn⟩,by show h0.n<=k;omega⟩,k1,k2⟩
 ·obtain⟨v,q1,q2⟩:=e t u (vQ ht);obtain⟨q3,q4⟩:=g3.at_ t v q1;exact⟨q3,q2 _ _ _ _ _ g2 (f9 k) (fun id p sz op ep xs c t fr z1 z2 _ z4=>pW g2 z1 z2 z4) q4⟩
 ·intro id p hp;obtain⟨p',q1,q2⟩:=g4.ext id p hp;exact⟨p',aT.2 ⟨hlow id p hp,q1⟩,q2⟩
 ·intro id hid hp;have:=g4.new id hid hp;cases hcp:dj pl k id with
  |none=>rfl
  |some q=>rw[(aT.1 hcp).2]at this;omega
 ·exact fun b c hb=>f9 k b c (g4.mem b c hb)
 ·exact fun id p' hp'=>g4.blks id p' (aT.1 hp').2
 ·intro id p hp hg;have:=g4.live id p hp hg;cases hcp:(s.heap.cut k).get id with
  |none=>rfl
  |some o=>grind[iH]
 ·exact fun id p hp hg=>aT.2 ⟨hlow id p hp,g4.stay id p hp hg⟩
 ·intro b c hb;rcases jk hb with q|⟨⟨id,p,q1,q2,q3⟩,_⟩
  ·exact g4.memNew b c q
  ·rcases g4.blks id p q2 with⟨p0,q4,_⟩|q4
   all_goals grind
theorem ca.frz(hG:jc G){m k:Nat}{ts:List Nat}(hm:m<=k)(hk:k<=s.heap.n)(hc:fN s.heap k k=true)(e:frzL s.tmps s.heap k ts=some L):ca G (some m) s ⟨eE s.tmps.n L,s.heap.cut k⟩:=ca.frzP hG hm hk hc fun t u h=>by grind[rp,Plain.frz]
theorem Qs{ids:List Nat}{id:Nat}(i:Nat)(h:jq id ids=true):i<=kU id ids i/\gy ids (kU id ids i-i)=id/\kU id ids i-i<ids.length:=by
 induction ids generalizing i with
 |nil=>grind[jq]
 | cons x r ih=>
  simp only[jq,ud]at h;simp only[kU];cases hb:Nat.beq x id with
  |true=>simp_all[gy]
  |false=>
   rcases h with h|h
   ·grind
   ·obtain⟨k1,k2,k3⟩:=ih (i+1) h;simp only[];refine⟨by omega,?_,by grind⟩;rw[show kU id r (i+1)-i=(kU id r (i+1)-(i+1))+1 by omega];exact k2
theorem uO{ids:List Nat}{id:Nat}(h:jq id ids=true):kU id ids 0<ids.length/\gy ids (kU id ids 0)=id:=by grind[Qs]
mutual
theorem oG{ids:List Nat}:∀(v:AV),iI ids v=true->ren (gy ids) (ren (fun i=>kU i ids 0) v)=v/\(ren (fun i=>kU i ids 0) v).top<=ids.length
 | .ptr id ..,h=>by simp only[iI]at h;obtain⟨h1,h2⟩:=uO h;exact⟨by simp only[ren,h2],by simp only[ren,AV.top];omega⟩
 | .slice id ..,h=>by simp only[iI]at h;obtain⟨h1,h2⟩:=uO h;exact⟨by simp only[ren,h2],by simp only[ren,AV.top];omega⟩
 | .sl0 id ..,h=>by simp only[iI]at h;obtain⟨h1,h2⟩:=uO h;exact⟨by simp only[ren,h2],by simp only[ren,AV.top];omega⟩
 | .map id,h=>by simp only[iI]at h;obtain⟨h1,h2⟩:=uO h;exact⟨by simp only[ren,h2],by simp only[ren,AV.top];omega⟩
 | .func fn a b,h=>by
  simp only[iI,bZ]at h;obtain⟨k1,k2⟩:=kV a h.1;obtain⟨q1,q2⟩:=kV b h.2;exact⟨by simp only[ren,k1,q1],by simp only[ren,AV.top];exact ra.2 ⟨k2,q2⟩⟩
 | .iface t v,h=>by simp only[iI]at h;obtain⟨k1,k2⟩:=oG v h;exact⟨by simp only[ren,k1],by simpa only[ren,AV.top]using k2⟩
 | .agg cs,h=>by simp only[iI]at h;obtain⟨k1,k2⟩:=kV cs h;exact⟨by simp only[ren,k1],by simpa only[ren,AV.top]using k2⟩
 | .tuple cs,h=>by simp only[iI]at h;obtain⟨k1,k2⟩:=kV cs h;exact⟨by simp only[ren,k1],by simpa only[ren,AV.top]using k2⟩
 | .ps xs t,h=>by simp only[iI]at h;obtain⟨k1,k2⟩:=kV xs h;exact⟨by simp only[ren,k1],by simpa only[ren,AV.top]using k2⟩
 | .pptr xs i o,h=>by simp only[iI]at h;obtain⟨k1,k2⟩:=kV xs h;exact⟨by simp only[ren,k1],by simpa only[ren,AV.top]using k2⟩
 | .ls xs,_=>⟨rfl,b8 _⟩
 | .bool b,_=>⟨rfl,b8 _⟩
 | .int k n,_=>⟨rfl,b8 _⟩
 | .str s,_=>⟨rfl,b8 _⟩
 | .nilp,_=>⟨rfl,b8 _⟩
 | .nils,_=>⟨rfl,b8 _⟩
 | .nilm,_=>⟨rfl,b8 _⟩
 | .nilf,_=>⟨rfl,b8 _⟩
 | .nili,_=>⟨rfl,b8 _⟩
theorem kV{ids:List Nat}:∀(vs:List AV),lL ids vs=true->mB (gy ids) (mB (fun i=>kU i ids 0) vs)=vs/\az (mB (fun i=>kU i ids 0) vs)<=ids.length
 |[],_=>⟨rfl,b8 _⟩
 |x::r,h=>by
  simp only[lL,bZ]at h;obtain⟨k1,k2⟩:=oG x h.1;obtain⟨q1,q2⟩:=kV r h.2;exact⟨by simp only[mB,k1,q1],by simp only[mB,az];exact ra.2 ⟨k2,q2⟩⟩
end
theorem C1{ids:List Nat}:∀(es:List AEnt),yi ids es=true->kG (gy ids) (kG (fun i=>kU i ids 0) es)=es/\aO (kG (fun i=>kU i ids 0) es)<=ids.length
 |[],_=>⟨rfl,b8 _⟩
 |e::r,h=>by
  simp only[yi,bZ]at h;obtain⟨k1,k2⟩:=oG e.key h.1.1;obtain⟨z1,z2⟩:=oG e.val h.1.2;obtain⟨q1,q2⟩:=C1 r h.2;exact⟨by simp_all[kG],by simp only[kG,aO];exact ra.2 ⟨ra.2 ⟨k2,z2⟩,q2⟩⟩
theorem N2{ids:List Nat}(o:AObj)(h:um ids o=true):kF (gy ids) (kF (fun i=>kU i ids 0) o)=o/\(kF (fun i=>kU i ids 0) o).top<=ids.length:=by
 cases o with
 |row a b c xs=>grind[um,kV,kF,AObj.top]
 |map es c=>grind[um,C1,kF,AObj.top]
 |dead=>exact⟨rfl,b8 _⟩
 |siter s p=>exact⟨rfl,b8 _⟩
 |miter m c s=>grind[um,oG,kF,AObj.top]
theorem GN{ids:List Nat}:∀{ts:List Nat}{L:List (Nat×AV)},N3 A ids ts=some L->∀t u,(t,u)∈L->∃v,A.get t=some v/\iI ids v=true/\u=ren (fun i=>kU i ids 0) v
 |[],L,e,t,u,hm=>by grind[N3]
 | x::r,L,e,t,u,hm=>by
  simp only[N3]at e;split at e
  ·rename_i v hv;split at e
   ·rename_i hw;split at e
    ·rename_i L' hL;simp at e;subst e;rcases dP.1 hm with k|k
     ·simp_all
     ·exact GN hL t u k
    ·grind
   ·grind
  ·grind
theorem HA:∀{ids:List Nat}{i:Nat},i<ids.length->ids[i]?=some (gy ids i)
 |x::r,0,_=>rfl
 |x::r,i+1,h=>by simpa[gy]using HA (ids:=r) (i:=i) (by simp_all)
theorem sX:∀{ids:List Nat},Ax ids=true->∀i j,i<ids.length->j<ids.length->gy ids i=gy ids j->i=j
 | x::r,h,i,j,hi,hj,e=>by
  simp only[Ax,bZ,Bool.not_eq_true']at h;have hx:∀k,k<r.length->gy r k≠x:=by
   intro k hk e;have:=bH (HA hk);rw[e]at this;have:=o6.2 this;simp_all
  cases i with
  |zero=>cases j with
   |zero=>rfl
   |succ j=>exact absurd e.symm (hx j (by simp_all))
  |succ i=>cases j with
   |zero=>exact absurd e (hx i (by simp_all))
   |succ j=>have:=sX h.2 i j (by simp_all) (by simp_all) e;omega
theorem Dl{ids:List Nat}:∀{m:Nat},BX ids m=true->∀i,i<m->gy ids i=i/\i<ids.length
 |0,_,i,hi=>by omega
 |k+1,h,i,hi=>by
  simp only[BX,bZ,aB,dN,decide_eq_true_eq]at h;by_cases e:i=k
  ·simp_all
  ·exact Dl h.2 i (by omega)
theorem Pw(hG:jc G){m:Nat}{ids ts:List Nat}{os:List AObj}(h1:Ax ids=true)(h2:BX ids m=true)(e1:N3 s.tmps ids ts=some L)(o1:os.length=ids.length)
  (o2:∀(j:Nat)(o':AObj),os[j]?=some o'->∃o,s.heap.get (gy ids j)=some o/\kF (gy ids) o'=o/\o'.top<=ids.length):
  ca G (some m) s ⟨eE s.tmps.n L,aw os⟩:=by
 intro N h0 pl0 M0 w0 a w hb ⟨⟨pl,M,g1,g2,g3,g4,g5⟩,k1,k2⟩;obtain⟨b1,b2⟩:=hb m rfl;have hm:∀i,i<m->gy ids i=i/\i<ids.length:=Dl h2;have hlen:(aw os).n=ids.length:=o1;have some_:∀{id p},kY (gy ids) ids.length pl id=some p->id<ids.length/\pl (gy ids id)=some p:=by grind[kY]
 have low:∀{id p},pl0 id=some p->∀{q},pl id=some q->kY (gy ids) ids.length pl id=some q:=by grind[kY]
 have blk:∀{id p'},kY (gy ids) ids.length pl id=some p'->(∃p,pl0 id=some p/\p.blk=p'.blk)\/w0.heap.size<=p'.blk:=by
  intro id p' hp;obtain⟨q1,q2⟩:=some_ hp;rcases g4.blks _ p' q2 with⟨p0,y1,y2⟩|y
  all_goals grind[sX]
 refine⟨⟨kY (gy ids) ids.length pl,M,g1.none hG,⟨fun id p hp=>by simp_all,fun id p o hp hg=>?_,fun id p hp=>g2.blk _ p (some_ hp).2,fun id id' p p' q1 q2 e=>sX h1 id id' (some_ q1).1 (some_ q2).1 (g2.inj _ _ p p' (some_ q1).2 (some_ q2).2 e),g2.imm,fun id p hp=>g2.sep _ p (some_ hp).2⟩,
  ⟨g3.size,g3.defers,fun t u ht=>?_⟩,⟨fun id p hp=>?_,fun id hid hp=>?_,g4.mem,g4.size,g4.kept,fun id p hp=>blk hp,fun id p hp hg=>?_,fun id p hp hg=>low hp (g4.stay id p hp hg),g4.memNew,g4.os,g4.tape,g4.out,g4.drawn⟩,?_⟩,k1,k2⟩
 ·obtain⟨q1,q2⟩:=some_ hp;obtain⟨o',y1,z1,z2⟩:=o2 id o (oJ hg);exact bm.ren (ρ:=gy ids) (by rw[z1];exact g2.obj _ p _ q2 y1) z2
 ·obtain⟨v,q1,q2,q3⟩:=GN e1 t u (vQ ht);subst q3;obtain⟨z1,z2⟩:=oG v q2;obtain⟨q3,q4⟩:=g3.at_ t v q1;exact⟨q3,q4.ren z1.symm z2⟩
 ·obtain⟨p',q1,q2⟩:=g4.ext id p hp;simp_all
 ·have hid':id<m:=by omega
  have:=g4.new id hid hp;cases hr:kY (gy ids) ids.length pl id with
  |none=>rfl
  |some q=>grind
 ·have hk:=g4.live id p hp hg;cases hr:(aw os).get id with
  |none=>rfl
  |some o=>
   obtain⟨o',y1,_⟩:=o2 id o (oJ hr);grind
 grind
theorem sS(ρ:Nat->Nat):∀(es:List AEnt),aO es=0->kG ρ es=es
 |[],_=>rfl
 |e::r,h=>by
  simp only[aO]at h;have h1:=sV h;have h2:=sV h1.1;simp_all[kG,iF,sS]
theorem Js(ρ:Nat->Nat)(o:AObj)(h:o.top=0):kF ρ o=o:=by
 cases o with
 |row a b c xs=>grind[AObj.top,kF,fm]
 |map es c=>grind[AObj.top,kF,sS]
 |dead=>rfl
 |siter s p=>rfl
 |miter m c s=>grind[AObj.top,kF,iF]
theorem Pv(hG:jc G){m k:Nat}{ts:List Nat}{os:List AObj}{t id ep off len sz:Nat}{cap:Option Nat}{op:Bool}{xs ys:List AV}(hm:m<=k)(hk:k<=s.heap.n)(hc:fN s.heap k k=true)(e:Ev.frzL s.tmps s.heap k ts=some L)(eo:eR s.heap k 0=some os)
  (et:s.tmps.get t=some (.slice id ep off len cap))(hid:k<=id)(hg:s.heap.get id=some (.row sz op ep xs))(hy:(xs.drop off).take len=ys)(ht:az ys=0):
  ca G (some m) s ⟨eE s.tmps.n ((t,.ps ys (oO cap (some len)))::L),aw os⟩:=by
 refine ca.trans (ca.frzP (L:=(t,.ps ys (oO cap (some len)))::L) hG hm hk hc fun t' u h=>?_) (ca.sub ⟨rfl,fun _ _ h=>h,?_,fun id o hh=>?_⟩)
 ·grind[Plain.slice,rp,Plain.frz]
 ·obtain⟨k1,_⟩:=eB _ _ _ eo;show k<=(aw os).n
  grind[aw]
 ·obtain⟨k1,k2⟩:=eB _ _ _ eo;have h1:=oJ hh;have h2:=k2 id o h1;have hlt:id<k:=by grind
  rw[gn,AHeap.get_some]at h2;exact AHeap.get_some.2 ⟨hlt,h2.2.1,h2.2.2⟩
theorem ca.frzL(hG:jc G){m k:Nat}{ts:List Nat}{os:List AObj}(hm:m<=k)(hk:k<=s.heap.n)(hc:fN s.heap k k=true)(e:Ev.frzL s.tmps s.heap k ts=some L)(eo:eR s.heap k 0=some os):
  ca G (some m) s ⟨eE s.tmps.n L,aw os⟩:=by
 refine ca.trans (ca.frz hG hm hk hc e) (ca.sub ⟨rfl,fun _ _ h=>h,?_,fun id o hh=>?_⟩)
 ·obtain⟨k1,_⟩:=eB _ _ _ eo;show k<=(aw os).n
  grind[aw]
 ·obtain⟨k1,k2⟩:=eB _ _ _ eo;have h1:=oJ hh;have h2:=k2 id o h1;have hlt:id<k:=by grind
  rw[gn,AHeap.get_some]at h2;exact AHeap.get_some.2 ⟨hlt,h2.2.1,h2.2.2⟩
theorem ca.psh{b:Option Nat}{o:AObj}:ca G b s ⟨s.tmps,s.heap.push o⟩:=by
 intro N h0 pl0 M0 w0 a w hb ⟨⟨pl,M,g1,g2,g3,g4,g5⟩,k1,k2⟩;refine⟨⟨pl,M,g1,⟨fun id p hp=>Nat.lt_succ_of_lt (g2.dom id p hp),fun id p o' hp hg=>?_,g2.blk,g2.inj,g2.imm,g2.sep⟩,g3,⟨g4.ext,g4.new,g4.mem,g4.size,g4.kept,g4.blks,fun id p hp hg=>?_,g4.stay,g4.memNew,g4.os,g4.tape,g4.out,g4.drawn⟩,Nat.le_succ_of_le g5⟩,k1,k2⟩
 ·rcases dg hg with⟨rfl,_⟩|⟨_,h2⟩
  ·exact absurd (g2.dom _ p hp) (xZ _)
  ·exact g2.obj id p o' hp h2
 ·have:=g4.live id p hp hg;cases hh:(s.heap.push o).get id with
  |none=>rfl
  |some o'=>
   rcases dg hh with⟨rfl,_⟩|⟨_,h2⟩
   ·obtain⟨p',e1,_⟩:=g4.ext _ p hp;exact absurd (g2.dom _ p' e1) (xZ _)
   simp_all
theorem Le.sl0{id ep len:Nat}{cap:Option Nat}:Le (.sl0 id ep len cap) (.slice id ep 0 len cap):=fun _ _ _ h=>.sl0s h
theorem FF{id ep:Nat}{cap:Option Nat}:Le (.sl0 id ep 0 cap) (.ls []):=fun _ _ _ h=>.sl0n h
theorem Le.sl0n{id ep:Nat}{cap:Option Nat}:Le (.sl0 id ep 0 cap) .nils:=Le.trans FF Le.nils
theorem ca.val{b:Option Nat}{t:Nat}{v u:AV}{A':Fr}(hs:s.tmps.n<=60000)(hv:s.tmps.get t=some v)(hl:∀(pl:Pl)(M:dT)(x:Value),VRel pl M v x->VRel pl M u x)(hp:je s.tmps (some t) u=some A'):ca G b s ⟨A',s.heap⟩:=ca.put (A:=s.tmps) (h:=s.heap) hs hv hl hp
theorem Plain.sl0{h:AHeap}{n id ep len sz:Nat}{cap:Option Nat}{op:Bool}{xs ys:List AV}(hgo:h.get id=some (.row sz op ep xs))(hid:n<=id)(hy:(xs.drop 0).take len=ys)(ht:az ys=0):
  Plain h n (.sl0 id ep len cap) (.ls ys):=by
 intro pl M Md w x hr hmd hd hv;cases hv with
 |sl0s hv=>exact .lsp (Plain.slice hgo hid hy ht pl M Md w x hr hmd hd hv).loose ht
 |sl0n hv=>
  rw[List.take_zero]at hy;subst hy;exact hv.agree (n:=n) (b8 _) ee hmd
noncomputable def Dy(A:Fr):List Nat->Option (List (Nat×AV))
 |[]=>some []
 |t::r=>match A.get t,Dy A r with
  |some v,some L=>some ((t,v)::L)
  |_,_=>none
noncomputable def Hj(A:Fr)(k:Nat):List Nat->Prop
 |[]=>True
 |t::r=>(match A.get t with|some v=>v.top<=k|none=>False)/\Hj A k r
theorem Dv{A:Fr}{k:Nat}:∀{ts:List Nat}{L:List (Nat×AV)},Dy A ts=some L->Hj A k ts->∀t u,(t,u)∈L->A.get t=some u/\u.top<=k
 |[],L,e,_,t,u,h=>by grind[Dy]
 | x::r,L,e,hl,t,u,h=>by
  simp only[Dy]at e;simp only[Hj]at hl;split at e
  ·rename_i v L' hv hL;cases e
   rw[hv]at hl;rcases dP.1 h with h|h
   ·simp_all
   ·exact Dv hL hl.2 t u h
  grind
theorem ca.frl(hG:jc G){m k:Nat}{ts ls:List Nat}{K:List (Nat×AV)}{os:List AObj}(hm:m<=k)(hk:k<=s.heap.n)(hc:fN s.heap k k=true)(e:Ev.frzL s.tmps s.heap k ts=some L)(eK:Dy s.tmps ls=some K)(hl:Hj s.tmps k ls)(eo:eR s.heap k 0=some os):
  ca G (some m) s ⟨eE s.tmps.n (K++L),aw os⟩:=by
 refine ca.trans (ca.frzP (L:=K++L) hG hm hk hc fun t' u h=>?_) (ca.sub ⟨rfl,fun _ _ h=>h,?_,fun id o hh=>?_⟩)
 ·rcases mZ.1 h with h|h
  ·obtain⟨q1,q2⟩:=Dv eK hl t' u h;exact⟨u,q1,fun pl M Md w x hr hmd _ hv=>hv.agree q2 ee hmd⟩
  grind[rp,Plain.frz]
 ·obtain⟨k1,_⟩:=eB _ _ _ eo;show k<=(aw os).n
  grind[aw]
 ·obtain⟨k1,k2⟩:=eB _ _ _ eo;have h1:=oJ hh;have h2:=k2 id o h1;have hlt:id<k:=by grind
  rw[gn,AHeap.get_some]at h2;exact AHeap.get_some.2 ⟨hlt,h2.2.1,h2.2.2⟩
theorem LV{u:AV}{Φ:St->Prop}(hg:fK s.tmps (e9 ops o)=some true)(e:(fC P G o.op).run s.tmps s.heap=some (.val v h'))(hl:Le u v)(hp:je s.tmps o.dst u=some A')(h:cH P G b ops l ⟨A',h'⟩ Φ):cH P G b ops (o::l) s Φ:=by
 intro i N h0 pl0 M0 w0 a w Q hb hl' hs hQ;have ho:ops[i]?=some o:=by simpa using hl' 0
 obtain⟨pl,M,g1,g2,g3,g4,g5⟩:=hs.ex;simp only[cO,Cp,wpOps,ho];rw[f8 g3 hg];simp only[if_true];left;obtain⟨dst,op,ty,pos,after,guard⟩:=o;obtain⟨pl',M',cv,w',nx,q1,q2,q3,q4,q5,q6⟩:=Aj (P:=P) (G:=G) op pl M s.tmps s.heap v h' a w dst ty pos after guard g1 g2 g3 e;obtain⟨p1,p2⟩:=oW (g3.mono q5.ext q5.mem) (hl _ _ _ q3) (by rw[hs.n];exact hs.small) hp;have key:SNow G N h0 pl0 M0 w0 ⟨A',h'⟩ (a.put dst cv) w':=⟨⟨pl',M',g1.mono q5.ext q5.mem,q4,p1,g4.trans q5 g5,bu g5 q6⟩,by rw[<-hs.n];omega,hs.small⟩
 have nxt:=h (i+1) N h0 pl0 M0 w0 _ w' Q hb (fun j=>by have:=hl' (j+1);grind) key hQ;unfold Oper.wp;rw[q1];rcases q2 with rfl|⟨rfl,rfl⟩
 ·exact nxt
 ·exact nxt
theorem DSpec.effS{F:Fr}{h1:AHeap}(hg:fK ⟨F.n,cZ F (o.looksAt ops) .nil⟩ (e9 ops o)=some true)(e:(fC P G o.op).run ⟨F.n,cZ F (o.looksAt ops) .nil⟩ h=some (.call f args))
  (ht:jV F h.n (o.looksAt ops)=true)(ho:∀id o',h.get id=some o'->o'.top<=h.n)(hle:h.n<=h1.n)(hsame:∀id,id<h.n->h1.get id=h.get id)(hf:aN P G f args h (fun v1 h2=>v1=v/\h2=h1)):
  DSpec P G ops o (o.looksAt ops) F h v h1 ⟨⟨true,[],h.n,h.n⟩,⟨false,[],h.n,h1.n⟩⟩:=by
 refine⟨hle,fun id o' hno hg1=>?_,fun id k1 k2=>.inr (.inr ⟨k1,k2⟩),?_⟩
 ·have hlt:=(AHeap.get_some.1 hg1).1;rcases gQ id h.n with k|k
  ·simp_all
  ·exact absurd (.inr (.inr ⟨k,hlt⟩)) hno
 ·intro nk n0 g pl M a w K Q hn0 hnk hbig hr hvis hU hG hs hdf hF hK;have hf0:FrRel pl M ⟨F.n,cZ F (o.looksAt ops) .nil⟩ a:=iy hs hdf hF;rw[f8 hf0 hg];simp only[if_true];left;have hvg:∀id o,h.get id=some o->g id=some o:=fun id o' hh=>hvis id o' (.inl ⟨rfl,(AHeap.get_some.1 hh).1⟩) hh
  have hfr:=rH (M:=M) hs hdf ht hF;let W:Nat->Prop:=fun id=>h.n<=id/\id<h1.n
  refine xb (W:=W) hr (af _) hvg ho hfr hG e hf (.inr hnk) hU (fun id k1 k2 k3=>hsame id k1) (fun id k1 k2=>?_) (fun id k1=>k1.2) (fun id k1 k2=>⟨k1,k2⟩) ?_
  ·omega
  ·intro cv w' pl' M' r1 r2 r3 r4 r5;refine hK cv w' pl' M' _ r1 (r2.weaken hn0) r3 r4 (fun id hp hh=>?_) (fun id hno=>iw fun hW=>?_) (fun id o' hyes hg1=>?_)
   ·rcases hh with hh|hh
    ·exact r2.new id hh hp
    simp_all
   ·exact hno (.inr (.inr hW))
   ·have hW:W id:=by
     rcases hyes with⟨k1,k2⟩|k|k
     all_goals grind
    grind[m9]
theorem DSpec.eff{F:Fr}{h1:AHeap}(hg:fK ⟨F.n,cZ F (o.looksAt ops) .nil⟩ (e9 ops o)=some true)(e:(fC P G o.op).run ⟨F.n,cZ F (o.looksAt ops) .nil⟩ h=some (.call f args))
  (ht:jV F h.n (o.looksAt ops)=true)(ho:∀id o',h.get id=some o'->o'.top<=h.n)(hle:h.n<=h1.n)(hfew:∀id,id<h.n->h.get id=none->h1.get id=none)(hf:aN P G f args h (fun v1 h2=>v1=v/\h2=h1)):
  DSpec P G ops o (o.looksAt ops) F h v h1 ⟨⟨true,[],h.n,h.n⟩,⟨true,[],h.n,h1.n⟩⟩:=by
 refine⟨hle,fun id o' hno hg1=>?_,fun id k1 k2=>.inr (.inr ⟨k1,k2⟩),?_⟩
 ·have hlt:=(AHeap.get_some.1 hg1).1;rcases gQ id h.n with k|k
  ·exact absurd (.inl ⟨rfl,k⟩) hno
  ·exact absurd (.inr (.inr ⟨k,hlt⟩)) hno
 ·intro nk n0 g pl M a w K Q hn0 hnk hbig hr hvis hU hG hs hdf hF hK;have hf0:FrRel pl M ⟨F.n,cZ F (o.looksAt ops) .nil⟩ a:=iy hs hdf hF;rw[f8 hf0 hg];simp only[if_true];left;have hvg:∀id o,h.get id=some o->g id=some o:=fun id o' hh=>hvis id o' (.inl ⟨rfl,(AHeap.get_some.1 hh).1⟩) hh
  have hfr:=rH (M:=M) hs hdf ht hF;let W:Nat->Prop:=fun id=>(id<h.n/\h.get id≠none)\/(h.n<=id/\id<h1.n)
  refine xb (W:=W) hr (af _) hvg ho hfr hG e hf (.inr hnk) hU (fun id k1 k2 k3=>absurd (.inl ⟨k1,k3⟩) k2) (fun id k1 k2=>?_) (fun id k1=>?_) (fun id k1 k2=>.inr ⟨k1,k2⟩) ?_
  ·grind
  ·omega
  ·intro cv w' pl' M' r1 r2 r3 r4 r5;refine hK cv w' pl' M' _ r1 (r2.weaken hn0) r3 r4 (fun id hp hh=>?_) (fun id hno=>iw fun hW=>?_) (fun id o' hyes hg1=>?_)
   ·rcases hh with hh|hh
    ·exact r2.new id hh hp
    simp_all
   ·rcases hW with⟨k1,k2⟩|k
    ·exact hno (.inl ⟨rfl,k1⟩)
    ·exact hno (.inr (.inr k))
   ·have hW:W id:=by
     rcases hyes with⟨k1,k2⟩|k|k
     all_goals grind
    grind[m9]
theorem cH.skip{Φ:St->Prop}(hg:fK s.tmps (e9 ops o)=some false)(hp:je s.tmps o.dst gF=some A')(h:cH P G b ops l ⟨A',s.heap⟩ Φ):cH P G b ops (o::l) s Φ:=by
 refine cH.one (call:=Aa) DY ?_ h;grind[zo,b0,fin]
end
end Go.Ev
