/- An abstract machine for runs of the program, proved sound against the model: part 4. No conditions. -/
import Derived.Test.YtadodlkibeofjaaGreatDoorMach3
import Derived.OpenShut
import Derived.ChangeArms
import Derived.ProofKit
import Derived.LaidMore
import Derived.IntWalk
namespace Go.Ev
open Go
def Wi(b:Option Nat)(h0:AHeap)(pl0:Pl):Prop:=∀m,b=some m->h0.n=m/\∀id p,pl0 id=some p->id<m
def Tp(P:Program)(pl:Pl)(M:dl)(h:AHeap)(w:World)(f:FuncId)(vs:Array Value)(Ψ:AV->AHeap->Prop):Prop:=
 ((callFunc f vs).run P w=.ok (.enter f vs) w/\Calls P f vs w fun e w'=>∃cv v h',e=.returned cv/\Ψ v h'/\iX pl M h w v h' cv w')\/
 (∃cv w' v h',(callFunc f vs).run P w=.ok (.value cv) w'/\Ψ v h'/\iX pl M h w v h' cv w')
def aE(P:Program)(G:eB)(f:FuncId)(args:List AV)(h:AHeap)(Ψ:AV->AHeap->Prop):Prop:=∀(pl:Pl)(M:dl)(w:World)(vs:Array Value),pE G pl M->ct pl M h w->VRels pl M args vs->Tp P pl M h w f vs Ψ
def am(P:Program)(G:eB)(b:Option Nat)(c:Code)(s:St)(Φ:AExit->St->Prop):Prop:=
 ∀(N:Nat)(h0:AHeap)(pl0:Pl)(M0:dl)(w0:World)(a:Act)(w:World)(Q:Exit->Act->World->Prop),Wi b h0 pl0->SNow G N h0 pl0 M0 w0 s a w->
  (∀e s' a1 w1,Φ e s'->SNow G N h0 pl0 M0 w0 s' a1 w1->Q (vn e) a1 w1)->c.wp P Q a w
def b8(P:Program)(G:eB)(b:Option Nat)(ops:Array Oper)(l:List Oper)(s:St)(Φ:St->Prop):Prop:=
 ∀(i:Nat)(N:Nat)(h0:AHeap)(pl0:Pl)(M0:dl)(w0:World)(a:Act)(w:World)(Q:Exit->Act->World->Prop),Wi b h0 pl0->(∀j,ops[i+j]?=l[j]?)->SNow G N h0 pl0 M0 w0 s a w->
  (∀s' a1 w1,Φ s'->SNow G N h0 pl0 M0 w0 s' a1 w1->Q .normal a1 w1)->wpOps P ops Q (List.range' i l.length) a w
def zP:cJ:=fun _ _ _=>none
section
variable{P:Program}{G:eB}{b:Option Nat}{ops:Array Oper}{l:List Oper}{o:Oper}{s s':St}{h h':AHeap}{v:AV}{A A':Fr}{call:cJ}{f:FuncId}{args:List AV}{c d:Code}
theorem C2:co P G zP:=fun _ _ _ _ _ h=>by grind[zP]
theorem aE.mono{Ψ Ψ':AV->AHeap->Prop}(hh:aE P G f args h Ψ)(hi:∀v h',Ψ v h'->Ψ' v h'):aE P G f args h Ψ':=by
 intro pl M w vs hg hr hv;rcases hh pl M w vs hg hr hv with⟨h1,h2⟩|⟨cv,w',v,h',h1,h2,h3⟩
 ·exact .inl ⟨h1,Calls.mono h2 fun e w' ⟨cv,v,h',k1,k2,k3⟩=>⟨cv,v,h',k1,hi v h' k2,k3⟩⟩
 ·exact .inr ⟨cv,w',v,h',h1,hi v h' h2,h3⟩
theorem aE.of(hc:co P G call)(e:call f args h=some (v,h')):aE P G f args h (fun v1 h1=>v1=v/\h1=h'):=by
 intro pl M w vs hg hr hv;rcases hc f args h v h' e pl M w vs hg hr hv with⟨h1,h2⟩|⟨cv,w',h1,h2⟩
 ·exact .inl ⟨h1,Calls.mono h2 fun e w' ⟨cv,k1,k2⟩=>⟨cv,v,h',k1,⟨rfl,rfl⟩,k2⟩⟩
 ·exact .inr ⟨cv,w',v,h',h1,⟨rfl,rfl⟩,h2⟩
theorem am.mono{Φ Φ':AExit->St->Prop}(hh:am P G b c s Φ)(hi:∀e s',Φ e s'->Φ' e s'):am P G b c s Φ':=fun N h0 pl0 M0 w0 a w Q hb hs hQ=>hh N h0 pl0 M0 w0 a w Q hb hs fun e s' a1 w1 h1 h2=>hQ e s' a1 w1 (hi e s' h1) h2
theorem am.skip{Φ:AExit->St->Prop}(h:Φ .normal s):am P G b .skip s Φ:=fun _ _ _ _ _ a w _ _ hs hQ=>wp_skip (hQ .normal s a w h hs)
theorem am.label{Φ:AExit->St->Prop}{x}(h:Φ .normal s):am P G b (.label x) s Φ:=fun _ _ _ _ _ a w _ _ hs hQ=>wp_label (hQ .normal s a w h hs)
theorem am.exit{Φ:AExit->St->Prop}{id:Nat}(h:Φ (.exit id) s):am P G b (.exit id) s Φ:=fun _ _ _ _ _ a w _ _ hs hQ=>wp_exit (hQ (.exit id) s a w h hs)
theorem am.ret{Φ:AExit->St->Prop}(h:Φ .ret s):am P G b .ret s Φ:=fun _ _ _ _ _ a w _ _ hs hQ=>wp_ret (hQ .ret s a w h hs)
def abr(P:Program)(G:eB)(b:Option Nat)(d:Code)(Φ:AExit->St->Prop):AExit->St->Prop
 | .normal,s=>am P G b d s Φ
 |e,s=>Φ e s
theorem am.seq{Φ:AExit->St->Prop}(h:am P G b c s (abr P G b d Φ)):am P G b (.seq c d) s Φ:=by
 intro N h0 pl0 M0 w0 a w Q hb hs hQ;refine wp_seq (h N h0 pl0 M0 w0 a w _ hb hs fun e s' a1 w1 h1 h2=>?_);cases e with
 |normal=>exact h1 N h0 pl0 M0 w0 a1 w1 Q hb h2 hQ
 |exit id=>exact hQ (.exit id) s' a1 w1 h1 h2
 |ret=>exact hQ .ret s' a1 w1 h1 h2
theorem am.cond{Φ:AExit->St->Prop}{x:Operand}{t:Bool}(hx:(cj G x).run s.tmps=some (.bool t))(h1:t=true->am P G b c s Φ)(h2:t=false->am P G b d s Φ):am P G b (.cond x c d) s Φ:=by
 intro N h0 pl0 M0 w0 a w Q hb hs hQ;obtain⟨pl,M,g1,g2,g3,g4,g5⟩:=hs.ex;have hv:=bZ g1 g3 hx;generalize hq:a.eval x=y at hv;cases hv
 cases t
 ·exact wp_cond_false hq (h2 rfl N h0 pl0 M0 w0 a w Q hb hs hQ)
 ·exact wp_cond_true hq (h1 rfl N h0 pl0 M0 w0 a w Q hb hs hQ)
def Wf(id:Nat)(Φ:AExit->St->Prop):AExit->St->Prop
 | .exit k,s=>if k=id then Φ .normal s else Φ (.exit k) s
 |e,s=>Φ e s
theorem am.block{Φ:AExit->St->Prop}{id:Nat}(h:am P G b c s (Wf id Φ)):am P G b (.block id c) s Φ:=by
 intro N h0 pl0 M0 w0 a w Q hb hs hQ;refine wp_block (h N h0 pl0 M0 w0 a w _ hb hs fun e s' a1 w1 h1 h2=>?_);cases e with
 |normal=>exact hQ .normal s' a1 w1 h1 h2
 |ret=>exact hQ .ret s' a1 w1 h1 h2
 |exit k=>
  by_cases hk:k=id
  ·simp only[Wf,hk,if_true]at h1;simp only[vn,Exit.inBlock,hk,if_true];exact hQ .normal s' a1 w1 h1 h2
  ·simp only[Wf,hk,if_false]at h1;simp only[vn,Exit.inBlock,hk,if_false];exact hQ (.exit k) s' a1 w1 h1 h2
def aaH(n:Nat)(I:Nat->St->Prop)(Φ:AExit->St->Prop):AExit->St->Prop
 | .normal,s=>∃m,m<n/\I m s
 |e,s=>Φ e s
theorem am.loop{Φ:AExit->St->Prop}(I:Nat->St->Prop)(n:Nat)(h0:I n s)(hI:∀n s,I n s->am P G b c s (aaH n I Φ)):am P G b (.loop c) s Φ:=by
 intro N hp0 pl0 M0 w0 a w Q hb hs hQ;have key:∀(n m:Nat)(s:St)(a:Act)(w:World),n<m->I n s->SNow G N hp0 pl0 M0 w0 s a w->Code.rounds P c Q m a w:=by
  intro n;induction n using Nat.strongRecOn with
  | _ n ih=>
   intro m s a w hm hi hs;cases m with
   |zero=>omega
   | succ m=>
    rw[rounds_succ];refine hI n s hi N hp0 pl0 M0 w0 a w _ hb hs fun e s' a1 w1 h1 h2=>?_
    cases e with
    |normal=>
     obtain⟨k,hk,hi'⟩:=h1;exact ih k hk m s' a1 w1 (by omega) hi' h2
    |exit id=>exact hQ (.exit id) s' a1 w1 h1 h2
    |ret=>exact hQ .ret s' a1 w1 h1 h2
 exact wp_loop_rounds (n+1) (key n (n+1) s a w (Nat.lt_succ_self n) h0 hs)
theorem am.scope{Φ:AExit->St->Prop}(h:am P G b c s Φ):am P G b (.scope c) s Φ:=by
 intro N h0 pl0 M0 w0 a w Q hb hs hQ;refine wp_scope_straight (h N h0 pl0 M0 w0 a w _ hb hs fun e s' a1 w1 h1 h2=>?_);cases e<;>exact hQ _ s' a1 w1 h1 h2
theorem am.region{Φ:AExit->St->Prop}{id:Nat}(h:b8 P G b ops ops.toList s (Φ .normal)):am P G b (.region id ops false) s Φ:=by
 intro N h0 pl0 M0 w0 a w Q hb hs hQ;refine wp_region ?_;rw[List.range_eq_range'];have hlen:ops.size=ops.toList.length:=by simp
 rw[hlen];exact h 0 N h0 pl0 M0 w0 a w Q hb (fun j=>by simp) hs fun s' a1 w1 h1 h2=>hQ .normal s' a1 w1 h1 h2
theorem b8.nil{Φ:St->Prop}(h:Φ s):b8 P G b ops [] s Φ:=fun _ _ _ _ _ _ a w _ _ _ hs hQ=>hQ s a w h hs
theorem b8.one{Φ:St->Prop}(hc:co P G call)(e:zV call (bI P G ops o) s some=some s')(h:b8 P G b ops l s' Φ):b8 P G b ops (o::l) s Φ:=by
 intro i N h0 pl0 M0 w0 a w Q hb hl hs hQ;have ho:ops[i]?=some o:=by simpa using hl 0
 simp only[cM,yF,wpOps,ho];refine LL (K:=wpOps P ops Q (List.range' (i+1) l.length)) hc hs e fun s1 a1 w1 h1 h2=>?_
 cases h2
 exact h (i+1) N h0 pl0 M0 w0 a1 w1 Q hb (fun j=>by have:=hl (j+1);grind) h1 hQ
theorem b8.val{Φ:St->Prop}(hg:ez s.tmps (dT ops o)=some true)(e:(eT P G o.op).run s.tmps s.heap=some (.val v h'))(hp:ie s.tmps o.dst v=some A')(h:b8 P G b ops l ⟨A',h'⟩ Φ):b8 P G b ops (o::l) s Φ:=by
 refine b8.one (call:=zP) C2 ?_ h;grind[zV,bI,behind,fin]
theorem b8.calls{Φ:St->Prop}{Ψ:AV->AHeap->Prop}(hg:ez s.tmps (dT ops o)=some true)(e:(eT P G o.op).run s.tmps s.heap=some (.call f args))(hf:aE P G f args s.heap Ψ)
  (h:∀v h',Ψ v h'->∃A',ie s.tmps o.dst v=some A'/\b8 P G b ops l ⟨A',h'⟩ Φ):b8 P G b ops (o::l) s Φ:=by
 intro i N h0 pl0 M0 w0 a w Q hb hl hs hQ;have ho:ops[i]?=some o:=by simpa using hl 0
 obtain⟨pl,M,g1,g2,g3,g4,g5⟩:=hs.ex;simp only[cM,yF,wpOps,ho];rw[fQ g3 hg];simp only[if_true];left;obtain⟨vs,q1,q2⟩:=uy (P:=P) (w:=w) g1 g3 e;have key:∀cv w' v h',Ψ v h'->iX pl M s.heap w v h' cv w'->wpOps P ops Q (List.range' (i+1) l.length) (a.put o.dst cv) w':=by
  intro cv w' v h' hΨ ⟨pl',M',k1,k2,k3,k4⟩;obtain⟨A',e2,hh⟩:=h v h' hΨ;obtain⟨p1,p2⟩:=ly (g3.mono k3.ext k3.mem) k1 (by rw[hs.n];exact hs.small) e2;exact hh (i+1) N h0 pl0 M0 w0 _ w' Q hb (fun j=>by have:=hl (j+1);grind)
   ⟨⟨pl',M',g1.mono k3.ext k3.mem,k2,p1,g4.trans k3 g5,bO g5 k4⟩,by rw[<-hs.n];omega,hs.small⟩ hQ
 unfold Oper.wp;rw[q2];rcases hf pl M w vs g1 g2 q1 with⟨k1,k2⟩|⟨cv,w',v,h',k1,k2,k3⟩
 ·rw[k1];refine Calls.mono k2 fun en w'' ⟨cv,v,h',e1,e2,e3⟩=>?_
  grind
 ·rw[k1];exact key cv w' v h' k2 k3
structure SubSt(s' s:St):Prop where
 n:s'.tmps.n=s.tmps.n
 tmps:∀t v,s'.tmps.get t=some v->s.tmps.get t=some v
 hn:s.heap.n<=s'.heap.n
 objs:∀id o,s'.heap.get id=some o->s.heap.get id=some o
theorem SubSt.now{N:Nat}{h0:AHeap}{pl0:Pl}{M0:dl}{w0:World}{a:Act}{w:World}(hS:SubSt s' s)(hs:SNow G N h0 pl0 M0 w0 s a w):SNow G N h0 pl0 M0 w0 s' a w:=by
 obtain⟨⟨pl,M,g1,g2,g3,g4,g5⟩,hn,hsm⟩:=hs;refine⟨⟨pl,M,g1,⟨fun id p hp=>by have:=g2.dom id p hp;have:=hS.hn;omega,fun id p o hp hg=>g2.obj id p o hp (hS.objs id o hg),g2.blk,g2.inj,g2.imm,g2.sep⟩,⟨by rw[hS.n];exact g3.size,g3.defers,fun t v ht=>?_⟩,⟨g4.ext,g4.new,g4.mem,g4.size,g4.kept,g4.blks,fun id p hp hg=>?_,g4.stay,g4.memNew,g4.os,g4.tape,g4.out,g4.drawn⟩,bO g5 hS.hn⟩,by rw[hS.n];omega,hsm⟩
 ·grind[cases SubSt,cases FrRel]
 ·cases hh:s'.heap.get id with
  |none=>rfl
  |some o=>have:=g4.live id p hp hg;grind[cases SubSt]
theorem aE.enter{hp:AHeap}{fn:Func}{Ψ:AV->AHeap->Prop}(pol:Nat)(hf:P.funcs[f]?=some fn)(hN:(fn.name== "runtime.NumGoroutine")=false)(hb:fn.body=some c)(hn:Nat.ble args.length fn.ntmps=true/\Nat.ble fn.ntmps 60000=true)
  (h:am P G (some hp.n) c ⟨⟨fn.ntmps,gS fn.ntmps args 0 .nil⟩,hp⟩ fun e s=>(∀id,e≠.exit id)/\∃v,fW (fV P fn.results.toList s.tmps s.heap)=some v/\Ψ (fR pol hp.n v s.heap).1 (fR pol hp.n v s.heap).2):aE P G f args hp Ψ:=by
 intro pl M w vs hg hr hv;simp only[bU,decide_eq_true_eq]at hn;left;simp only[beq_eq_false_iff_ne,ne_eq]at hN;refine⟨by simp_all[callFunc],calls_of_wp hf hb ?_⟩;have hs0:SNow G fn.ntmps hp pl M w ⟨⟨fn.ntmps,gS fn.ntmps args 0 .nil⟩,hp⟩ {tmps:=vs++Array.replicate (fn.ntmps-vs.size) undef,defers:=[]} w:=⟨⟨pl,M,hg,hr,zY hv hn.1 hn.2,cO.refl _ _ _ _,af _⟩,rfl,hn.2⟩
 refine h fn.ntmps hp pl M w _ w _ (fun m hb=>?_) hs0 fun e s a1 w1 h1 h2=>?_
 ·cases hb
  exact⟨rfl,fun id p hq=>hr.dom id p hq⟩
 ·obtain⟨hne,v,hres,hΨ⟩:=h1;obtain⟨pl1,M1,g1,g2,g3,g4,g5⟩:=h2.ex;obtain⟨cv,k1,k2⟩:=sI g2 g3 hres;obtain⟨pl2,M2,q1,q2,q3,q4⟩:=ug pol hr g2 k2 g4 g5 (rfl:fR pol hp.n v s.heap=((fR pol hp.n v s.heap).1,(fR pol hp.n v s.heap).2));have fin:a1.defers=[]/\∃u,(results fn a1.tmps).run P w1=.ok u w1/\∃cv v h',Ending.returned u=.returned cv/\Ψ v h'/\iX pl M hp w v h' cv w1:=⟨g3.defers,cv,k1,cv,_,_,rfl,hΨ,pl2,M2,q1,q2,q3,q4⟩
  cases e with
  |exit id=>simp_all
  |normal=>exact fin
  |ret=>exact fin
def iT(G:eB):Prop:=∀g x,G g=some x->x.top=0
theorem qo{pl:Pl}{M:dl}{n:Nat}{g:Nat->Option AObj}{w:World}(hr:RepF pl M n g w):ct (fun _=>none) M AHeap.none w:=⟨fun _ _ h=>by simp_all,fun _ _ _ h=>by simp_all,fun _ _ h=>by simp_all,fun _ _ _ _ h=>by simp_all,hr.imm,fun _ _ h=>by simp_all⟩
theorem VRel.none{pl pl':Pl}{M:dl}{x:Value}(h:VRel pl M v x)(ht:v.top=0):VRel pl' M v x:=h.agree (n:=0) (by omega) (fun _ _ h _=>absurd h (pG _)) (fun _ _ h=>h)
theorem VRels.none{pl pl':Pl}{M:dl}{xs:List AV}{ys:Array Value}(h:VRels pl M xs ys)(ht:aq xs=0):VRels pl' M xs ys:=⟨h.len,fun j y hj=>(h.at_ j y hj).none (by have:=dC.1 (wl ht) y (bh hj);omega)⟩
theorem pE.none{pl pl':Pl}{M:dl}(hG:iT G)(h:pE G pl M):pE G pl' M:=fun g x hg=>⟨(h g x hg).1.none (by have:=hG g x hg;simp[AV.top,aq,this];rfl),(h g x hg).2⟩
theorem vN{pl pl':Pl}{M M':dl}{n m:Nat}{g:Nat->Option AObj}{w w':World}{h1:AHeap}(hr:RepF pl M n g w)(hr':ct pl' M' h1 w')(hs:cO AHeap.none (fun _=>none) M w h1 pl' M' w'):
  RepF pl M' n g w'/\StepF m g pl M w g pl M' w':=by
 have kept:∀b,b<w.heap.size->w'.heap[b]?=w.heap[b]?:=fun b hb=>hs.kept b hb (fun id p h=>by simp_all)
 refine⟨⟨hr.dom,fun id p o hp hg=>?_,fun id p hp=>Ft (hr.blk id p hp) hs.size,hr.inj,hr'.imm,fun id p hp=>?_⟩,⟨nE.refl _,fun _ _ h=>h,hs.mem,hs.size,fun b hb _=>kept b hb,fun id p h=>.inl ⟨p,h,rfl⟩,fun _ _ _ h=>h,fun _ _ h _=>h,hs.memNew,hs.os,hs.tape,hs.out,hs.drawn⟩⟩
 ·rw[kept _ (hr.blk id p hp)];exact(hr.obj id p o hp hg).mono (nE.refl _) hs.mem
 ·cases hM:M' p.blk with
  |none=>rfl
  |some c=>
   rcases hs.memNew _ c hM with k|k
   all_goals grind[cases RepF]
theorem aE.lift{Ψ:AV->AHeap->Prop}(hG:iT G)(ht:aq args=0)(h0:aE P G f args AHeap.none Ψ)(hΨ:∀v h',Ψ v h'->v.top=0)(h:AHeap):
  aE P G f args h (fun v h'=>(∃h1,Ψ v h1)/\h'=h):=by
 intro pl M w vs hg hr hv;have fin:∀v h1 cv w',Ψ v h1->iX (fun _=>none) M AHeap.none w v h1 cv w'->iX pl M h w v h cv w':=by
  intro v h1 cv w' hp ⟨pl',M',k1,k2,k3,k4⟩;obtain⟨q1,q2⟩:=vN (m:=h.n) hr k2 k3;exact⟨pl,M',k1.none (hΨ v h1 hp),q1,q2,af _⟩
 rcases h0 (fun _=>none) M w vs (hg.none hG) (qo hr) (hv.none ht)with⟨h1,h2⟩|⟨cv,w',v,h',h1,h2,h3⟩
 ·exact .inl ⟨h1,Calls.mono h2 fun e w' ⟨cv,v,h',k1,k2,k3⟩=>⟨cv,v,h,k1,⟨⟨h',k2⟩,rfl⟩,fin v h' cv w' k2 k3⟩⟩
 ·exact .inr ⟨cv,w',v,h,h1,⟨⟨h',h2⟩,rfl⟩,fin v h' cv w' h2 h3⟩
def aL(P:Program)(G:eB)(f:FuncId)(args:List AV)(v:AV):Prop:=∀h,aE P G f args h (fun v1 h1=>v1=v/\h1=h)
theorem oO(hG:iT G)(ht:aq args=0)(hv:v.top=0)(h0:aE P G f args AHeap.none (fun v1 _=>v1=v)):aL P G f args v:=fun h=>(aE.lift hG ht h0 (fun v1 _ e=>by simp_all) h).mono fun v1 h1 ⟨⟨_,e1⟩,e2⟩=>⟨e1,e2⟩
end
def sn(P:Program)(G:eB)(ops:Array Oper):Nat->List Oper->Fr->AHeap->List Rec->(Fr->AHeap->Prop)->Prop
 |_,[],F,h,_,Φ=>h.n<=1000000/\Φ F h
 |k,o::rest,F,h,rs,Φ=>∃v h1 r F',DSpec P G ops o (o.looksAt ops) F h v h1 r/\lf (eH (dS ops.toList 0 []) k) r rs k=true/\ie F o.dst v=some F'/\sn P G ops (k+1) rest F' h1 (r::rs) Φ
section
variable{P:Program}{G:eB}{b:Option Nat}{ops:Array Oper}{l:List Oper}{o:Oper}{s s':St}{h h':AHeap}{v:AV}{A A':Fr}{call:cJ}{f:FuncId}{args:List AV}{c d:Code}
theorem IZ:∀(l:List Oper)(k:Nat)(hs0:Nat->AHeap)(Fs0:Nat->Fr)(vs0:Nat->AV)(rc0:Nat->Rec)(Φ:Fr->AHeap->Prop),sn P G ops k l (Fs0 k) (hs0 k) (fT rc0 k) Φ->
  ∃(hs:Nat->AHeap)(Fs:Nat->Fr)(vs:Nat->AV)(rc:Nat->Rec),(∀i,i<=k->hs i=hs0 i/\Fs i=Fs0 i)/\(∀i,i<k->vs i=vs0 i/\rc i=rc0 i)/\
   (∀j o,l[j]?=some o->DSpec P G ops o (o.looksAt ops) (Fs (k+j)) (hs (k+j)) (vs (k+j)) (hs (k+j+1)) (rc (k+j)))/\
   (∀j o,l[j]?=some o->ie (Fs (k+j)) o.dst (vs (k+j))=some (Fs (k+j+1)))/\
   (∀j o,l[j]?=some o->∀i,i<k+j->Nh (rc i) (rc (k+j))->Nat.testBit (eH (dS ops.toList 0 []) (k+j)) i=true)/\
   (hs (k+l.length)).n<=1000000/\Φ (Fs (k+l.length)) (hs (k+l.length))
 |[],k,hs0,Fs0,vs0,rc0,Φ,e=>by
  obtain⟨e1,e2⟩:=e;exact⟨hs0,Fs0,vs0,rc0,fun _ _=>⟨rfl,rfl⟩,fun _ _=>⟨rfl,rfl⟩,fun j d h=>by simp_all,fun j d h=>by simp_all,fun j d h=>by simp_all,by omega,by omega⟩
 | o::r,k,hs0,Fs0,vs0,rc0,Φ,e=>by
  obtain⟨v,h',rec,F',ho,hcl,hp,e⟩:=e;let hs1:Nat->AHeap:=fun i=>if i=k+1 then h' else hs0 i
  let Fs1:Nat->Fr:=fun i=>if i=k+1 then F' else Fs0 i
  let vs1:Nat->AV:=fun i=>if i=k then v else vs0 i
  let rc1:Nat->Rec:=fun i=>if i=k then rec else rc0 i
  have er:rec::fT rc0 k=fT rc1 (k+1):=by
   simp only[fT];grind[pZ]
  have e2:sn P G ops (k+1) r (Fs1 (k+1)) (hs1 (k+1)) (fT rc1 (k+1)) Φ:=by grind
  obtain⟨hs,Fs,vs,rc,a1,a2,a3,a4,a5,a6,a7⟩:=IZ r (k+1) hs1 Fs1 vs1 rc1 Φ e2;have hk:=a1 k (by omega);have hk1:=a1 (k+1) (by omega);have hvk:=a2 k (by omega);simp only[hs1,Fs1,show ¬k=k+1 by omega,if_false,if_true]at hk hk1;simp only[vs1,rc1,if_true]at hvk;refine⟨hs,Fs,vs,rc,fun i hi=>?_,fun i hi=>?_,fun j d' hj=>?_,fun j d' hj=>?_,fun j d' hj i hi hc=>?_,?_,?_⟩
  ·grind
  ·grind
  ·grind
  ·grind
  ·match j,hj with
   |0,hj=>
    simp at hj;subst hj;simp only[pH]at hi hc ⊢;have hri:=(a2 i (by omega)).2;simp only[rc1,show ¬i=k by omega,if_false]at hri;rw[hri,hvk.2]at hc;have hcl':lf (eH (dS ops.toList 0 []) k) rec (fT rc0 k) (fT rc0 k).length=true:=by grind[mS]
    have:=s5 hcl' (k-1-i) (rc0 i) (sL rc0 k i hi) hc;grind[mS]
   |j+1,hj=>grind
  all_goals grind
noncomputable def EG(P:Program)(G:eB)(ops:Array Oper):Bool:=A7 ops.toList&&Region.noSelect ops&&(mT P G ops (dS ops.toList 0 []) ops.toList 0).isSome
theorem am.draw{Φ:AExit->St->Prop}{id:Nat}(hm:P.follows .mixedOrders=true)(hfit:EG P G ops=true)(h:sn P G ops 0 ops.toList s.tmps s.heap [] fun F hp=>Φ .normal ⟨F,hp⟩):am P G b (.region id ops true) s Φ:=by
 intro N h0 pl0 M0 w0 a w Q hb hsn hQ;unfold EG at hfit;simp only[bz]at hfit;obtain⟨⟨hck1,hck2⟩,hck3⟩:=hfit;obtain⟨ds,hrd⟩:=Option.isSome_iff_exists.1 hck3;obtain⟨⟨pl,M,g1,g2,g3,g4,g5⟩,hn,hsm⟩:=hsn;obtain⟨hs,Fs,vs,rc,a1,_,D1,D2,D3,D4,D5⟩:=IZ ops.toList 0 (fun _=>s.heap) (fun _=>s.tmps) (fun _=>gj) (fun _=>⟨⟨false,[],0,0⟩,⟨false,[],0,0⟩⟩) _ h;obtain⟨e1,e2⟩:=a1 0 (af _);obtain⟨hlen,hget⟩:=pX hrd;have hl:ops.toList.length=ops.size:=by simp
 simp only[fL]at D1 D2 D3;rw[fL,hl]at D4 D5;have R:Reg P G zP ops N hs Fs vs rc:=by
  refine⟨hsm,by simp_all,fun t u h=>?_,D4,fun j o ho=>?_,fun j o ho=>?_,fun j o ho i hi hcl=>?_,fun j o ho=>?_,fun j o ho=>?_,fun i j oi oj t hi hj=>wq hck1 i j oi oj t (by simp_all) (by simp_all)⟩;all_goals grind[cases FrRel]
 refine wp_region_any hm (TY R (h0:=s.heap) (pl0:=pl) (M0:=M) (w0:=w) g1 g2.dom (by simp_all) (fun a1 w1 h1=>?_) ops.size _ a _ (by simp) ?_ ?_)
 ·obtain⟨pl1,M1,k1,k2,k3⟩:=h1;refine hQ .normal _ a1 w1 D5 ⟨⟨pl1,M1,g1.mono k2.ext k2.mem,k1,k3,g4.trans k2 g5,?_⟩,(R.frame ops.size (af _)).1,hsm⟩;have:=R.mono (bA ops.size) (af _);grind
 ·simp_all
 ·have hno:∀j,¬(Array.replicate ops.size false).getD j false=true:=by simp_all[Array.getD]
  refine⟨fun i hi=>absurd hi (hno i),⟨pl,M,s.heap.get,?_,?_,fun id m o hm ha _ hg=>?_,fun j hj _ id h1 h2=>?_,fun j o t _ h=>absurd h (hno j),fun t u _ hu=>?_⟩,by rw[g3.size];omega,g3.defers⟩
  ·refine⟨fun id p hp=>?_,g2.obj,g2.blk,g2.inj,g2.imm,g2.sep⟩;have h1:=g2.dom id p hp;have:=R.mono (bA ops.size) (af _);grind
  ·exact⟨nE.refl _,fun _ _ h=>h,fun _ _ h=>h,af _,fun _ _ _=>rfl,fun id p h=>.inl ⟨p,h,rfl⟩,fun _ _ _ h=>h,fun _ _ h _=>h,fun _ _ h=>.inl h,rfl,rfl,rfl,nG _⟩
  ·have:=R.back (j:=0) m (bA _) hm (fun i _ h2 hw=>hno i (ha i h2 hw)) hg;simp_all
  ·cases hp:pl id with
   |none=>rfl
   |some p=>
    have h3:=g2.dom id p hp;have:=R.mono (bA j) (by omega);grind
  grind[cases FrRel]
theorem DSpec.of(hc:co P G call){F:Fr}{h1:AHeap}{r:Rec}(e:E4 call F h ⟨bI P G ops o,o.looksAt ops,de o.op,c9 o.op,0⟩=some (v,h1,r)):DSpec P G ops o (o.looksAt ops) F h v h1 r:=NW hc rfl rfl e
theorem DSpec.pure(hG:iT G){F:Fr}(hg:ez ⟨F.n,bN F (o.looksAt ops) .nil⟩ (dT ops o)=some true)(e:(eT P G o.op).run ⟨F.n,bN F (o.looksAt ops) .nil⟩ h=some (.call f args))
  (ht:aq args=0)(hv:v.top=0)(hf:aL P G f args v):DSpec P G ops o (o.looksAt ops) F h v h ⟨⟨false,[],0,0⟩,⟨false,[],0,0⟩⟩:=by
 refine⟨af _,fun _ _ _ h=>h,fun id h1 h2=>by omega,?_⟩;intro nk n0 g pl M a w K Q hn0 hnk hbig hr hvis hU hG' hs hdf hF hK;have hf0:FrRel pl M ⟨F.n,bN F (o.looksAt ops) .nil⟩ a:=gN hs hdf hF;rw[fQ hf0 hg];simp only[if_true];left;have hG2:pE G pl M:=hG'.none hG;obtain⟨vs,q1,q2⟩:=uy (P:=P) (w:=w) hG2 hf0 e;have fin:∀h1 cv w',iX (fun _=>none) M AHeap.none w v h1 cv w'->K (a.put o.dst cv) w':=by
  intro h1 cv w' ⟨pl',M',k1,k2,k3,k4⟩;obtain⟨z1,z2⟩:=vN (m:=n0) hr k2 k3;exact hK cv w' pl M' g z1 z2 (k1.none hv) (nE.refl _) (fun id h _=>h) (fun _ _=>rfl) (fun id o' hh=>absurd hh (rm (ids:=[])))
 unfold Oper.wp;rw[q2];rcases hf AHeap.none (fun _=>none) M w vs (hG2.none hG) (qo hr) (q1.none ht)with⟨k1,k2⟩|⟨cv,w',v',h',k1,⟨rfl,rfl⟩,k3⟩
 ·rw[k1];refine Calls.mono k2 fun en w'' ⟨cv,v',h',e1,e2,e3⟩=>?_
  grind
 ·rw[k1];exact fin _ cv w' k3
end
noncomputable section
def Ex:List (Nat×AV)->Tr AV->Tr AV
 |[],t=>t
 |p::r,t=>Ex r (match Nat.blt p.1 60000 with|true=>t.set 16 p.1 p.2|false=>t)
def eZ(n:Nat)(L:List (Nat×AV)):Fr:=⟨n,Ex L .nil⟩
def Ef:List AObj->Nat->Tr AObj->Tr AObj
 |[],_,t=>t
 |o::r,i,t=>Ef r (i+1) (match Nat.blt i 1000000 with|true=>t.set 20 i o|false=>t)
def aa(L:List AObj):AHeap:=⟨L.length,Ef L 0 .nil⟩
def pd(A:Fr):List Nat->Option (List AV)
 |[]=>some []
 |t::r=>match A.get t with
  |some v=>match pd A r with|some vs=>some (v::vs)|none=>none
  |none=>none
section
variable{P:Program}{G:eB}{b:Option Nat}{ops:Array Oper}{l:List Oper}{o:Oper}{s s':St}{h h':AHeap}{v:AV}{A A':Fr}{call:cJ}{f:FuncId}{args:List AV}{c d:Code}
theorem zu:∀{L:List (Nat×AV)}{t:Tr AV}{x:Nat}{v:AV},(Ex L t).get x=some v->(x,v)∈L\/t.get x=some v
 |[],t,x,v,h=>.inr h
 | p::r,t,x,v,h=>by
  simp only[Ex]at h;rcases zu h with h1|h1
  ·exact .inl (eC _ h1)
  ·rw[dm]at h1;by_cases hlt:p.1<60000
   ·simp only[hlt,decide_true]at h1;rcases iR 16 t p.1 p.2 x v (Nat.lt_trans (Cj hlt) (by decide)) h1 with⟨rfl,rfl⟩|⟨_,h2⟩
    ·exact .inl (by simp)
    ·exact .inr h2
   ·simp only[hlt,decide_false]at h1;exact .inr h1
theorem uc{n:Nat}{L:List (Nat×AV)}{x:Nat}{v:AV}(h:(eZ n L).get x=some v):(x,v)∈L:=by
 rcases zu (t:=.nil) h with h1|h1
 ·exact h1
 ·rw[fF]at h1;cases h1
theorem zH:∀{L:List AObj}{i:Nat}{t:Tr AObj}{x:Nat}{o:AObj},(Ef L i t).get x=some o->(i<=x/\L[x-i]?=some o)\/t.get x=some o
 |[],i,t,x,o,h=>.inr h
 | q::r,i,t,x,o,h=>by
  simp only[Ef]at h;rcases zH h with⟨h1,h2⟩|h1
  ·exact .inl ⟨by omega,by rw[show x-i=(x-(i+1))+1 by omega];simpa using h2⟩
  ·rw[dm]at h1;by_cases hlt:i<1000000
   ·simp only[hlt,decide_true]at h1;rcases iR 20 t i q x o (Nat.lt_trans (Cj hlt) (by decide)) h1 with⟨rfl,rfl⟩|⟨_,h2⟩
    ·exact .inl ⟨af _,by simp⟩
    ·exact .inr h2
   ·simp only[hlt,decide_false]at h1;exact .inr h1
theorem nL{L:List AObj}{x:Nat}{o:AObj}(h:(aa L).get x=some o):L[x]?=some o:=by
 obtain⟨_,_,h3⟩:=AHeap.get_some.1 h;rcases zH (t:=.nil) h3 with⟨_,h1⟩|h1
 ·simpa using h1
 ·rw[fF]at h1;cases h1
theorem Ar:∀{ts:List Nat}{vs:List AV},pd A ts=some vs->∀t v,(t,v)∈ts.zip vs->A.get t=some v
 |[],vs,_,t,v,h=>by simp at h
 | x::r,vs,e,t,v,h=>by
  simp only[pd]at e;cases hx:A.get x with
  |none=>simp[hx]at e
  | some u=>
   cases hr:pd A r with
   |none=>simp[hx,hr]at e
   |some us=>
    simp[hx,hr]at e;subst e;simp only[List.zip_cons_cons,dO,tu]at h;rcases h with⟨rfl,rfl⟩|h
    ·exact hx
    ·exact Ar hr t v h
end
end
section
variable{H:Type}
def cX(w:World):dl:=fun b=>match w.heap[b]? with|some (.cells c _ _)=>some c|_=>none
theorem JE{w:World}{b:Nat}{c:Array Value}(h:cX w b=some c):∃t fr,w.heap[b]?=some (.cells c t fr):=by
 unfold cX at h;split at h
 ·rename_i c' t fr q;cases h
  exact⟨t,fr,q⟩
 ·cases h
theorem NM(w:World):ct (fun _=>none) (cX w) AHeap.none w:=⟨fun _ _ h=>by simp at h,fun _ _ _ h=>by simp at h,fun _ _ h=>by simp at h,fun _ _ _ _ h=>by simp at h,fun _ _ h=>JE h,fun _ _ h=>by simp at h⟩
def wU(ag:Bool):List AV->Option AV
 | xs=>match ag with
  |true=>some (.agg xs)
  |false=>match xs with
   |[x]=>some x
   |_=>none
def wy(f:DataW H->Option (List AV))(ag:Bool)(sz:Nat):List (DataW H)->Option (List AV)
 |[]=>some []
 | d::r=>match f d with
  |some xs=>match Nat.beq xs.length sz,wU ag xs,wy f ag sz r with
   |true,some x,some ys=>some (x::ys)
   |_,_,_=>none
  |none=>none
def l9(P:Program)(f:TypeId->DataW H->Option (List AV)):List Field->List (DataW H)->Nat->Option (List AV)
 |[],[],_=>some []
 | x::fs,d::ds,off=>match f x.type d with
  |some xs=>match Nat.beq x.offset off&&Nat.beq xs.length (P.cellsOf x.type),l9 P f fs ds (off+P.cellsOf x.type)with
   |true,some ys=>some (xs++ys)
   |_,_=>none
  |none=>none
 |_,_,_=>none
def rO(f:DataW H->Option (List AV))(sz:Nat):List (DataW H)->Option (List AV)
 |[]=>some []
 | d::r=>match f d with
  |some xs=>match Nat.beq xs.length sz,rO f sz r with
   |true,some ys=>some (xs++ys)
   |_,_=>none
  |none=>none
def At(n:Nat):Option (List AV)->Option (List AV)
 |some xs=>match Nat.beq xs.length n with|true=>some xs|false=>none
 |none=>none
def FY(P:Program):Nat->TypeId->DataW H->Option (List AV)
 |0,_,_=>none
 | k+1,t,d=>
  match P.underlying t,d with
  |some .bool,.lit (.bool b)=>some [.bool b]
  |some (.int _),.lit (.int k n)=>some [.int k n]
  |some .string,.lit (.string s)=>some [.str s]
  |some (.slice _),.nil=>some [.nils]
  |some (.slice e),.slice es _=>match cH P e,wy (FY P k e) ((cH P e).getD false) (P.cellsOf e) es,Nat.blt 0 (P.cellsOf e)with
   |some _,some xs,true=>some [.ps xs false]
   |_,_,_=>none
  |some (.struct fs),.agg ds=>At (P.cellsOf t) (l9 P (FY P k) fs.toList ds 0)
  |some (.array _ e),.agg ds=>At (P.cellsOf t) (rO (FY P k e) (P.cellsOf e) ds)
  |_,_=>none
variable{enc:TypeId×Value->H}{P:Program}{w:World}{base:Nat}{spare:Nat->Bool}{held:Bool}
theorem VRels.appendL{pl:Pl}{M:dl}{xs ys:List AV}{a b:List Value}(h:VRels pl M xs a.toArray)(k:VRels pl M ys b.toArray):VRels pl M (xs++ys) (a++b).toArray:=by
 have h1:=h.len;have k1:=k.len;simp only[Cw]at h1 k1;refine⟨by simp[h1,k1],fun j y hj=>?_⟩;by_cases hlt:j<xs.length
 ·rw[sK hlt]at hj;have:=h.at_ j y hj;rw[gv]at this ⊢;simp only[oY]at this ⊢;rw[sK (by omega)];exact this
 ·rw[oV (by omega)]at hj;have:=k.at_ _ y hj;rw[gv]at this ⊢;simp only[oY]at this ⊢;rw[oV (by omega),<-h1];exact this
theorem Dp{a:Addr}{n:Nat}{cs:List Value}(h:w.cells? base a n=some cs):cs.length=n/\∀i,i<n->w.cell? (a.add i)=cs[i]?:=by
 unfold World.cells? at h;split at h
 ·have key:∀(l:List Nat)(cs:List Value),(l.mapM fun i=>w.cell? (a.add i))=some cs->cs.length=l.length/\∀(i j:Nat),l[i]?=some j->w.cell? (a.add j)=cs[i]?:=by
   intro l;induction l with
   |nil=>intro cs h;simp at h;subst h;exact⟨rfl,fun i j h=>by simp at h⟩
   |cons x r ih=>
    intro cs h;simp only[List.mapM_cons,Option.bind_eq_bind,Option.bind_eq_some_iff,Option.pure_def,ve]at h;obtain⟨v,h1,vs,h2,rfl⟩:=h;obtain⟨k1,k2⟩:=ih vs h2;refine⟨by simp[k1],fun i j hij=>?_⟩;cases i with
    |zero=>simp at hij;subst hij;simpa using h1
    |succ i=>simpa using k2 i j (by simpa using hij)
  obtain⟨k1,k2⟩:=key _ _ h;exact⟨by simpa using k1,fun i hi=>k2 i i (by simp[hi])⟩
 ·cases h
theorem rH{a:Addr}{v:Value}(h:w.cell? a=some v):a.spot=none/\∃c,cX w a.block=some c/\c[a.off]?=some v:=by
 unfold World.cell? at h;unfold cX;split at h
 ·rename_i c t fr q;split at h
  ·cases h
  ·rename_i hs;exact⟨by simpa using hs,c,by rw[q],h⟩
 ·cases h
theorem xy{n:Nat}{o:Option (List AV)}{xs:List AV}(h:At n o=some xs):o=some xs/\xs.length=n:=by
 cases o with
 |none=>simp[At]at h
 |some ys=>
  simp only[At,ao]at h;by_cases q:ys.length=n
  ·simp[q]at h;subst h;exact⟨rfl,q⟩
  ·simp[q]at h
theorem uP{ag:Bool}{xs:List AV}{x:AV}(h:wU ag xs=some x)(hs:∀y,y∈xs->cN y=true):x.cells=xs/\Sc x:=by
 unfold wU at h;cases ag with
 |true=>
  simp at h;subst h;exact⟨rfl,hs⟩
 | false=>
  simp only[]at h;split at h
  ·cases h
   have h1:=hs x (by simp);have e:x.cells=[x]:=by cases x<;>simp_all[cN,AV.cells]
   exact⟨e,fun z hz=>by rw[e]at hz;simp at hz;subst hz;exact h1⟩
  ·cases h
theorem vz{f:TypeId->DataW H->Option (List AV)}{tr:TypeId->List Value->Option (DataW H×List MemPlace)}{pl:Pl}{M:dl}{cs:List Value}
  (ih:∀t cs d p xs,f t d=some xs->tr t cs=some (d,p)->VRels pl M xs cs.toArray/\∀x,x∈xs->cN x=true):
  ∀(fs:List Field)(ds:List (DataW H×List MemPlace))(off:Nat)(xs:List AV),l9 P f fs (ds.map (·.1)) off=some xs->(∀(i:Nat)(x:Field),fs[i]?=some x->tr x.type ((cs.drop x.offset).take (P.cellsOf x.type))=ds[i]?)->off+xs.length=cs.length->
   VRels pl M xs (cs.drop off).toArray/\∀x,x∈xs->cN x=true
 |[],[],off,xs,e,_,hl=>by
  simp[l9]at e;subst e;simp only[gp,pH]at hl;refine⟨⟨by simp;omega,fun j y h=>by simp at h⟩,fun x h=>by simp at h⟩
 |[],_::_,_,_,e,_,_=>by simp[l9]at e
 |_::_,[],_,_,e,_,_=>by simp[l9]at e
 | x::fs,d::ds,off,xs,e,h,hl=>by
  simp only[eg,l9]at e;cases hf:f x.type d.1 with
  |none=>rw[hf]at e;simp at e
  | some ys=>
   rw[hf]at e;simp only[]at e;cases hr:l9 P f fs (ds.map (·.1)) (off+P.cellsOf x.type)with
   |none=>rw[hr]at e;simp at e
   | some zs=>
    rw[hr]at e;simp only[ao]at e;by_cases q:x.offset=off/\ys.length=P.cellsOf x.type
    ·obtain⟨q1,q2⟩:=q;simp[q1,q2]at e;subst e;simp only[eX]at hl;have h0:=h 0 x rfl;simp only[Cz]at h0;obtain⟨k1,k2⟩:=ih _ _ d.1 d.2 ys hf h0;obtain⟨k3,k4⟩:=vz ih fs ds (off+P.cellsOf x.type) zs hr (fun i y hy=>by simpa using h (i+1) y (by simpa using hy)) (by omega);rw[q1]at k1;have e2:cs.drop off=(cs.drop off).take (P.cellsOf x.type)++cs.drop (off+P.cellsOf x.type):=by rw[<-Cq,LZ]
     rw[e2];exact⟨k1.appendL k3,fun y hy=>(fK.1 hy).elim (k2 y) (k4 y)⟩
    ·exfalso;rcases Classical.not_and_iff_not_or_not.1 q with q|q<;>simp[q]at e
theorem xA{f:DataW H->Option (List AV)}{tr:List Value->Option (DataW H×List MemPlace)}{sz:Nat}{pl:Pl}{M:dl}{cs:List Value}
  (ih:∀cs d p xs,f d=some xs->tr cs=some (d,p)->VRels pl M xs cs.toArray/\∀x,x∈xs->cN x=true):
  ∀(ds:List (DataW H×List MemPlace))(n:Nat)(xs:List AV),rO f sz (ds.map (·.1))=some xs->(∀i,i<ds.length->tr ((cs.drop ((n+i)*sz)).take sz)=ds[i]?)->n*sz+xs.length=cs.length->
   VRels pl M xs (cs.drop (n*sz)).toArray/\∀x,x∈xs->cN x=true
 |[],n,xs,e,_,hl=>by
  simp[rO]at e;subst e;simp only[gp,pH]at hl;refine⟨⟨by simp;omega,fun j y h=>by simp at h⟩,fun x h=>by simp at h⟩
 | d::ds,n,xs,e,h,hl=>by
  simp only[eg,rO]at e;cases hf:f d.1 with
  |none=>rw[hf]at e;simp at e
  | some ys=>
   rw[hf]at e;simp only[]at e;cases hr:rO f sz (ds.map (·.1))with
   |none=>rw[hr]at e;simp at e
   | some zs=>
    rw[hr]at e;simp only[ao]at e;by_cases q2:ys.length=sz
    ·simp[q2]at e;subst e;simp only[eX]at hl;have h0:=h 0 (by simp);simp only[Cz,pH]at h0;obtain⟨k1,k2⟩:=ih _ d.1 d.2 ys hf h0;obtain⟨k3,k4⟩:=xA ih ds (n+1) zs hr (fun i hi=>by have:=h (i+1) (by simpa using hi);rw[show n+(i+1)=n+1+i by omega]at this;simpa using this) (by rw[qz];omega);have e2:cs.drop (n*sz)=(cs.drop (n*sz)).take sz++cs.drop ((n+1)*sz):=by rw[qz,<-Cq,LZ]
     rw[e2];exact⟨k1.appendL k3,fun y hy=>(fK.1 hy).elim (k2 y) (k4 y)⟩
    ·simp[q2]at e
theorem Bb{f:DataW H->Option (List AV)}{ag:Bool}{sz:Nat}:∀(ds:List (DataW H))(xs:List AV),wy f ag sz ds=some xs->xs.length=ds.length/\∀(i:Nat)(x:AV),xs[i]?=some x->∃d ys,ds[i]?=some d/\f d=some ys/\ys.length=sz/\wU ag ys=some x
 |[],xs,e=>by simp[wy]at e;subst e;exact⟨rfl,fun i x h=>by simp at h⟩
 | d::r,xs,e=>by
  simp only[wy]at e;cases hf:f d with
  |none=>rw[hf]at e;simp at e
  | some ys=>
   rw[hf]at e;simp only[ao]at e;cases he:wU ag ys with
   |none=>rw[he]at e;simp at e
   | some x=>
    cases hr:wy f ag sz r with
    |none=>rw[he,hr]at e;simp at e
    | some zs=>
     rw[he,hr]at e;by_cases q:ys.length=sz
     ·simp[q]at e;subst e;obtain⟨k1,k2⟩:=Bb r zs hr;refine⟨by simp[k1],fun i y hy=>?_⟩;cases i with
      |zero=>simp at hy;subst hy;exact⟨d,ys,rfl,hf,q,he⟩
      |succ i=>simpa using k2 i y (by simpa using hy)
     ·simp[q]at e
theorem tG:∀(k fuel:Nat)(t:TypeId)(cs:List Value)(d:DataW H)(p:List MemPlace)(xs:List AV),FY P k t d=some xs->DataW.trod enc P w base spare held fuel t cs=some (d,p)->
  VRels (fun _=>none) (cX w) xs cs.toArray/\∀x,x∈xs->cN x=true
 |0,_,_,_,_,_,_,e,_=>by simp[FY]at e
 | k+1,fuel,t,cs,d,p,xs,e,h=>by
  have one:∀{x:AV}{v:Value},VRel (fun _=>none) (cX w) x v->cN x=true->VRels (fun _=>none) (cX w) [x] [v].toArray/\∀y,y∈[x]->cN y=true:=by
   intro x v h1 h2;refine⟨⟨rfl,fun j y hj=>?_⟩,fun y hy=>by simp at hy;subst hy;exact h2⟩;cases j with
   |zero=>simp at hj;subst hj;simpa[Array.getD]using h1
   |succ j=>simp at hj
  unfold FY at e;split at e
  ·rename_i b ht;obtain⟨b',rfl,h1⟩:=DataW.trod_bool ht h;simp at h1 e;obtain⟨rfl,_⟩:=h1;subst e;exact one (.bool _) rfl
  ·rename_i k' k2 n ht;obtain⟨n',rfl,h1,_⟩:=DataW.trod_int ht h;simp at h1 e;obtain⟨⟨rfl,rfl⟩,_⟩:=h1;subst e;exact one (.int _ _) rfl
  ·rename_i s ht;obtain⟨s',rfl,h1,_⟩:=DataW.trod_string ht h;simp at h1 e;obtain⟨rfl,_⟩:=h1;subst e;exact one (.str _) rfl
  ·rename_i e' ht;simp at e;subst e;rcases DataW.trod_slice ht h with⟨rfl,_⟩|⟨a,len,cap,elems,rest,n,_,_,h1,_⟩
   ·exact one .nils rfl
   ·simp at h1
  ·rename_i e' es sp ht;rcases DataW.trod_slice ht h with⟨_,h1⟩|⟨a,len,cap,elems,rest,n,rfl,rfl,h1,h2,h3,h4,h5,h6,_,_⟩
   ·simp at h1
   ·simp only[tu,DataW.slice.injEq]at h1;obtain⟨⟨rfl,rfl⟩,_⟩:=h1;split at e
    ·rename_i ag ys hag hl hsz;simp at e;subst e;rw[dm]at hsz;simp only[decide_eq_true_eq]at hsz;obtain⟨q1,q2⟩:=Bb _ _ hl;have q1:ys.length=len:=by simpa[h5]using q1
     have el:∀(i:Nat)(x:AV),ys[i]?=some x->∃cs:List Value,cs.length=P.cellsOf e'/\(∀j,j<P.cellsOf e'->w.cell? ((a.add (i*P.cellsOf e')).add j)=cs[j]?)/\VRels (fun _=>none) (cX w) x.cells cs.toArray/\x.cells.length=P.cellsOf e'/\Sc x:=by
      intro i x hx;have hi:i<len:=by rw[<-q1];exact(fp.1 hx).1
      obtain⟨d,zs,k1,k2,k3,k4⟩:=q2 i x hx;have k5:=h6 i hi;rw[qq]at k1;cases hel:elems[i]? with
      |none=>rw[hel]at k1;simp at k1
      |some y=>
       rw[hel]at k1 k5;simp at k1;subst k1;simp only[Option.bind_eq_some_iff]at k5;obtain⟨cs,c1,c2⟩:=k5;obtain⟨z1,z2⟩:=Dp c1;obtain⟨r1,r2⟩:=tG k n e' cs y.1 y.2 zs k2 c2;obtain⟨r3,r4⟩:=uP k4 r2;exact⟨cs,z1,z2,by rw[r3];exact r1,by rw[r3];exact k3,r4⟩
     have addadd:∀i j:Nat,a.spot=none->(a.add i).add j=⟨a.block,a.off+i+j,none⟩:=by
      intro i j hs;obtain⟨blk,off,spot⟩:=a;simp at hs;subst hs;by_cases hi:i=0<;>by_cases hj:j=0<;>simp[Addr.add,hi,hj]
     have spot:ys≠[]->a.spot=none:=by
      intro hne;obtain⟨x,hx⟩:∃x,ys[0]?=some x:=by
       cases ys with
       |nil=>exact absurd rfl hne
       |cons x r=>exact⟨x,rfl⟩
      obtain⟨cs,c1,c2,_⟩:=el 0 x hx;have:=c2 0 hsz;rw[kE (by omega)]at this;simp only[Nat.zero_mul]at this;have:=(rH this).1;simpa[Addr.add]using this
     have cell:∀(i j:Nat)(x:AV),ys[i]?=some x->j<P.cellsOf e'->∃c v,cX w a.block=some c/\c[a.off+i*P.cellsOf e'+j]?=some v/\∀y,x.cells[j]?=some y->VRel (fun _=>none) (cX w) y v:=by
      intro i j x hx hj;obtain⟨cs,c1,c2,c3,c4,_⟩:=el i x hx;have:=c2 j hj;rw[kE (by omega),addadd _ _ (spot (by intro h;rw[h]at hx;simp at hx))]at this;obtain⟨_,c,m1,m2⟩:=rH this;refine⟨c,_,m1,m2,fun y hy=>?_⟩;have:=c3.at_ j y hy;rw[gv]at this;simp only[oY]at this;rw[kE (by omega)]at this;exact this
     refine one ?_ rfl;by_cases hne:ys=[]
     ·subst hne;simp at q1;subst q1;exact .ps (sz:=P.cellsOf e') (c:=#[]) (by simp) (fun h=>by cases h) (fun h=>absurd rfl h) (fun x h=>by simp at h) (fun i x j y h=>by simp at h)
     ·have hlen:0<ys.length:=qU.2 hne;obtain⟨x0,hx0⟩:∃x,ys[ys.length-1]?=some x:=⟨ys[ys.length-1],by simp⟩
      obtain⟨c,v0,m1,m2,_⟩:=cell (ys.length-1) (P.cellsOf e'-1) x0 hx0 (by omega);have hc:=(sW.1 m2).1;have hfit:a.off+ys.length*P.cellsOf e'<=c.size:=by
       have h1:(ys.length-1)*P.cellsOf e'+P.cellsOf e'=ys.length*P.cellsOf e':=by rw[<-qz];congr 1;omega
       omega
      have:=VRel.ps (pl:=fun _=>none) (M:=cX w) (xs:=ys) (tight:=false) (a:=a) (cap:=cap) (sz:=P.cellsOf e') (c:=c) (by omega) (fun h=>by cases h) (fun _=>⟨spot hne,m1,hfit,hsz⟩)
       (fun x hx=>by
        obtain⟨i,hi⟩:=FB.1 hx;obtain⟨_,_,_,_,r1,r2⟩:=el i x hi;exact⟨r1,r2⟩)
       (fun i x j y hx hy=>by
        obtain⟨_,_,_,_,r1,_⟩:=el i x hx;have hj:j<P.cellsOf e':=by rw[<-r1];exact(fp.1 hy).1
        obtain⟨c',v,n1,n2,n3⟩:=cell i j x hx hj;rw[m1]at n1;cases n1
        rw[gv,n2];exact n3 y hy)
      rw[q1]at this;exact this
    ·cases e
  ·rename_i fs ds ht;obtain⟨e1,e2⟩:=xy e;obtain⟨zs,n,rfl,h1,h2,h3,h4⟩:=DataW.trod_struct ht h;simp only[tu,DataW.agg.injEq]at h1;obtain⟨rfl,_⟩:=h1;have:=vz (P:=P) (cs:=cs) (f:=FY P k) (tr:=fun t cs=>DataW.trod enc P w base spare held n t cs) (fun t cs d p xs a b=>tG k n t cs d p xs a b) fs.toList zs 0 xs e1 (fun i x hx=>h4 i x (by simpa using hx)) (by omega);simpa using this
  ·rename_i n0 e' ds ht;obtain⟨e1,e2⟩:=xy e;obtain⟨zs,n,rfl,h1,h2,h3,h4⟩:=DataW.trod_array ht h;simp only[tu,DataW.agg.injEq]at h1;obtain⟨rfl,_⟩:=h1;have:=xA (cs:=cs) (f:=FY P k e') (tr:=fun cs=>DataW.trod enc P w base spare held n e' cs) (sz:=P.cellsOf e') (fun cs d p xs a b=>tG k n e' cs d p xs a b) zs 0 xs e1 (fun i hi=>by rw[fL];exact h4 i (by omega)) (by omega);simpa using this
  ·cases e
end
end Go.Ev
namespace Go.Ev
open Go Go.ChangeShapes Go.RowKit
section
variable{H:Type}{enc:TypeId×Value->H}{P:Program}{G:eB}{W W':World}
def KV:List (Nat×AV)->eB
 |[]=>fun _=>none
 |p::r=>fun g=>match Nat.beq p.1 g with|true=>some p.2|false=>KV r g
theorem AN:∀{l:List (Nat×AV)}{g:Nat}{x:AV},KV l g=some x->(g,x)∈l
 |[],g,x,h=>by simp[KV]at h
 |p::r,g,x,h=>by
  simp only[KV,ao]at h;by_cases q:p.1=g
  ·simp[q]at h;subst h;subst q;simp
  ·simp[q]at h;exact eC _ (AN h)
theorem Hy{l:List (Nat×AV)}{pl:Pl}{M:dl}(h:∀p,p∈l->To pl M p.1 p.2):pE (KV l) pl M:=fun g x hg=>h (g,x) (AN hg)
theorem ED{l:List (Nat×AV)}(h:(l.all fun p=>Nat.beq p.2.top 0)=true):iT (KV l):=fun g x hg=>by
 have:=mw.1 h _ (AN hg);simp_all
theorem Hb{g:Nat}{cs:Array Value}{t:TypeId}{fr:Nat×Nat}{x:AV}(hc:W.heap[g]?=some (.cells cs t fr))(h:VRels (fun _=>none) (cX W) x.cells cs)(hs:Sc x)(hp:0<x.cells.length):
  To (fun _=>none) (cX W) g x:=by
 have hM:cX W g=some cs:=by grind[cX]
 have hl:=h.len;have:=VRel.pptr (pl:=fun _=>none) (M:=cX W) (xs:=[x]) (i:=0) (off:=0) (a:=⟨g,0,none⟩) (sz:=x.cells.length) (c:=cs) ⟨rfl,hM,by simp_all,hp⟩
  (fun y hy=>by simp_all) (by simp) (fun i y j z hy hz=>by grind[cases VRels])
 exact⟨by simp_all,cs,hM,hl.symm⟩
theorem uo{laid:List (String×DataW Unit)}{n:String}{d:DataW Unit}(k:Nat){g:Nat}{t:TypeId}{xs:List AV}{x:AV}(h:laidMet P laid W)(hm:(n,d)∈laid)(hg:P.globalNamed n=some g)(ht:(P.globals[g]?).map (·.type)=some t)
  (ha:FY P k t d=some xs){ag:Bool}(he:wU ag xs=some x)(hp:Nat.blt 0 xs.length=true):To (fun _=>none) (cX W) g x:=by
 obtain⟨ps,hl,_,_⟩:=h;have key:∀(l:List (String×DataW Unit))(ps:List MemPlace),DataW.LaidVars P W l ps->(n,d)∈l->∃g t cs fuel p,P.globalNamed n=some g/\(P.globals[g]?).map (·.type)=some t/\W.var? P n=some cs/\DataW.trod (fun _=>()) P W 0 (fun _=>true) false fuel t cs.toList=some (d,p):=by
  intro l;induction l with
  |nil=>simp_all
  |cons q r ih=>
   obtain⟨n',d'⟩:=q;intro ps h hm;obtain⟨g,t,cs,fuel,p,q,h1,h2,h3,h4,h5,_⟩:=h;grind
 obtain⟨g',t',cs,fuel,p,h1,h2,h3,h4⟩:=key _ _ hl hm;rw[hg]at h1;cases h1
 rw[ht]at h2;cases h2
 obtain⟨r1,r2⟩:=tG k fuel t cs.toList d p xs ha h4;obtain⟨c1,c2⟩:=uP he r2;have hc:∃t fr,W.heap[g]?=some (.cells cs t fr):=by grind[World.var?]
 obtain⟨t2,fr,hc⟩:=hc;refine Hb hc ?_ c2 ?_;all_goals simp_all
theorem U4{f:FuncId}{fn:Func}{c:Code}{args:List AV}{vs:Array Value}(hf:P.funcs[f]?=some fn)(hN:(fn.name== "runtime.NumGoroutine")=false)(hb:fn.body=some c)
  (hG:pE G (fun _=>none) (cX W))(hv:VRels (fun _=>none) (cX W) args vs)(h:aE P G f args AHeap.none (fun v _=>v=.bool true)):
  Calls P f vs W fun e W'=>e=.returned (.bool true)/\Below W.heap.size W W':=by
 have fin:∀cv v h' W',v=.bool true->iX (fun _=>none) (cX W) AHeap.none W v h' cv W'->cv=.bool true/\Below W.heap.size W W':=by
  intro cv v h' W' e ⟨pl',M',k1,k2,k3,k4⟩;subst e;cases k1
  exact⟨rfl,k3.os,k3.tape,k3.out,k3.size,fun b hb=>k3.kept b hb fun id p h=>by simp_all⟩
 rcases h (fun _=>none) (cX W) W vs hG (NM W) hv with⟨h1,h2⟩|⟨cv,w',v,h',h1,h2,h3⟩
 ·exact Calls.mono h2 fun e w' ⟨cv,v,h',k1,k2,k3⟩=>by grind
 simp_all[callFunc]
theorem sq(hl:laidOutB P=true)(hb:Below W.heap.size W W'):∀{ts:List TypeId}{vs:List Value}{ds:List (DataW H)}{ps:List MemPlace},(ts.all fun t=>P.readableRec t&&decide (t<P.types.size))=true->DataW.TrodAll enc P W 0 (fun _=>true) true ts vs ds ps->(∀x∈ps,x.block<W.heap.size)->
  DataW.TrodAll enc P W' 0 (fun b=>decide (b<W.heap.size)) true ts vs ds ps
 |[],[],[],_,_,h,_=>h
 |t::ts,v::vs,d::ds,ps,hr,h,hlt=>by
  obtain⟨p,q,h1,h2,rfl⟩:=h;simp only[List.all_cons,bz,decide_eq_true_eq]at hr;exact⟨p,q,hb.trod hl hr.1.1 hr.1.2 h1 (fun x hx=>hlt x (fK.2 (.inl hx))),sq hl hb hr.2 h2 (fun x hx=>hlt x (fK.2 (.inr hx))),rfl⟩
 |[],_::_,_,_,_,h,_=>by grind[DataW.TrodAll]
 |[],[],_::_,_,_,h,_=>by grind[DataW.TrodAll]
 |_::_,[],_,_,_,h,_=>by grind[DataW.TrodAll]
 |_::_,_::_,[],_,_,h,_=>by grind[DataW.TrodAll]
theorem Ry{f:Func}{s:ChangeSpec}{args:Array Value}{ds gs:List (DataW H)}{before:List MemPlace}{tb:TypeId}(hl:laidOutB P=true)(hr:(f.params.toList.all fun t=>P.readableRec t&&decide (t<P.types.size))=true)
  (hvars:s.vars=[])(hfn:s.fn H (ds++gs)={results:=[.lit (.bool true)],args:=ds})(hres:f.resultTypes.toList=[tb])(htb:P.underlying tb=some .bool)
  (hW:DataW.Whole enc P f.params.toList s.vars false W args.toList ds gs before)(hb:Below W.heap.size W W'):s.post enc P f false true false false W args (.bool true) W':=by
 have hlt:=hW.lt;have hW0:=hW;obtain⟨p,q,hA,hV,rfl,hz,_⟩:=hW;have hV':=hV;rw[hvars]at hV';obtain⟨rfl,rfl⟩:=trodVars_none hV';simp only[ef]at hlt hz hfn;have hsz:f.resultTypes.size=1:=by rw[<-Array.length_toList,hres];rfl
 refine⟨ds,[],p++[],[],p,[],hW0,?_,?_,?_,hb.frame _,fun h=>by grind⟩
 ·rw[ef,hfn,hres,hsz];exact trodAll_mk1 (shut_bool htb true)
 ·grind[sq]
 ·rw[ef,hfn,hvars];exact rfl
end
section
variable{P:Program}{G:eB}{b:Option Nat}{ops:Array Oper}{l:List Oper}{o:Oper}{s s':St}{h h' h1 hv:AHeap}{v:AV}{A A' F:Fr}{call:cJ}{f:FuncId}{args:List AV}{c d:Code}{pl pl':Pl}{M M':dl}{w w':World}{a:Act}{r:Rec}
theorem wI{nk n0:Nat}{g:Nat->Option AObj}{W:Nat->Prop}{o:Oper}(hr:RepF pl M nk g w)(hn0:n0<=hv.n)(hvg:∀id o,hv.get id=some o->g id=some o)(ho:∀id o,hv.get id=some o->o.top<=hv.n)
  (hf:FrRel (dJ pl hv.n) M A a)(hg:pE G (dJ pl hv.n) M){f:FuncId}{args:List AV}(e:(eT P G o.op).run A hv=some (.call f args))(e2:aE P G f args hv (fun v1 h1=>v1=v/\h1=h'))(hnk:h'.n=hv.n\/h'.n<=nk)
  (hU:∀id,hv.n<=id->id<h'.n->pl id=none)(W1:∀id,id<hv.n->¬W id->hv.get id≠none->h'.get id=hv.get id)
  (W2:∀id,W id->id<hv.n->hv.get id≠none)(W3:∀id,W id->id<h'.n)(W4:∀id,hv.n<=id->id<h'.n->W id)
  {K:Act->World->Prop}{Q:Exit->Act->World->Prop}
  (hK:∀cv w' pl' M',RepF pl' M' nk (kw W g h'.get) w'->StepF n0 g pl M w (kw W g h'.get) pl' M' w'->VRel pl' M' v cv->nE pl pl'->(∀id,h'.n<=id->pl' id=pl id)->K (a.put o.dst cv) w'):
  o.wp P a w K Q:=by
 obtain⟨vs,k1,k2⟩:=uy (P:=P) (w:=w) hg hf e;have fin:∀cv w1,iX (dJ pl hv.n) M hv w v h' cv w1->K (a.put o.dst cv) w1:=by
  intro cv w1 ⟨pl1,M1,q3,q4,q5,q6⟩;obtain⟨r1,r2,r3,r4⟩:=L1 hr hn0 hvg q4 q5 q6 hnk hU W1 W2 W3 W4;exact hK cv w1 _ M1 r1 r2 (q3.mono r3 (fun _ _ h=>h)) r4 (fun id hid=>by grind[fz])
 unfold Oper.wp;rw[k2];rcases e2 _ M w vs hg (vt hr hvg ho) k1 with⟨q1,q2⟩|⟨cv,w1,v',h'',q1,⟨rfl,rfl⟩,q2⟩
 ·rw[q1];refine Calls.mono q2 fun en w'' ⟨cv,v',h'',e1,hh,e3⟩=>?_
  simp_all
 ·rw[q1];exact fin cv w1 q2
mutual
def ren(ρ:Nat->Nat):AV->AV
 | .ptr id a b c=>.ptr (ρ id) a b c
 | .slice id a b c d=>.slice (ρ id) a b c d
 | .sl0 id a b c=>.sl0 (ρ id) a b c
 | .map id=>.map (ρ id)
 | .func fn a b=>.func fn (mV ρ a) (mV ρ b)
 | .iface t v=>.iface t (ren ρ v)
 | .agg cs=>.agg (mV ρ cs)
 | .tuple cs=>.tuple (mV ρ cs)
 | .ps xs t=>.ps (mV ρ xs) t
 | .ls xs=>.ls xs
 | .pptr xs i o=>.pptr (mV ρ xs) i o
 | .bool b=>.bool b
 | .int k n=>.int k n
 | .str s=>.str s
 | .nilp=>.nilp
 | .nils=>.nils
 | .nilm=>.nilm
 | .nilf=>.nilf
 | .nili=>.nili
def mV(ρ:Nat->Nat):List AV->List AV
 |[]=>[]
 |x::r=>ren ρ x::mV ρ r
end
def kq(ρ:Nat->Nat):List AEnt->List AEnt
 |[]=>[]
 |e::r=>⟨ren ρ e.key,ren ρ e.val,e.born⟩::kq ρ r
def kU(ρ:Nat->Nat):AObj->AObj
 | .row a b c xs=>.row a b c (mV ρ xs)
 | .map es c=>.map (kq ρ es) c
 | .miter m c s=>.miter (ren ρ m) c s
 |o=>o
theorem fY(ρ:Nat->Nat):∀(xs:List AV),mV ρ xs=xs.map (ren ρ)
 |[]=>rfl
 |x::r=>by simp[mV,fY ρ r]
theorem qp(ρ:Nat->Nat):∀(xs:List AEnt),kq ρ xs=xs.map fun e=>⟨ren ρ e.key,ren ρ e.val,e.born⟩
 |[]=>rfl
 |x::r=>by simp[kq,qp ρ r]
theorem rn{a b:Nat}(h:Nat.mx a b=0):a=0/\b=0:=by
 have:=qD.1 (wl h);omega
mutual
theorem iJ(ρ:Nat->Nat):∀(v:AV),v.top=0->ren ρ v=v
 | .ptr ..,h=>by simp[AV.top]at h
 | .slice ..,h=>by simp[AV.top]at h
 | .sl0 ..,h=>by simp[AV.top]at h
 | .map _,h=>by simp[AV.top]at h
 | .func fn a b,h=>by simp only[AV.top]at h;simp only[ren,fX ρ a (rn h).1,fX ρ b (rn h).2]
 | .iface t v,h=>by simp only[AV.top]at h;simp only[ren,iJ ρ v h]
 | .agg cs,h=>by simp only[AV.top]at h;simp only[ren,fX ρ cs h]
 | .tuple cs,h=>by simp only[AV.top]at h;simp only[ren,fX ρ cs h]
 | .ps xs t,h=>by simp only[AV.top]at h;simp only[ren,fX ρ xs h]
 | .ls xs,_=>rfl
 | .pptr xs i o,h=>by simp only[AV.top]at h;simp only[ren,fX ρ xs h]
 | .bool b,_=>rfl
 | .int k n,_=>rfl
 | .str s,_=>rfl
 | .nilp,_=>rfl
 | .nils,_=>rfl
 | .nilm,_=>rfl
 | .nilf,_=>rfl
 | .nili,_=>rfl
theorem fX(ρ:Nat->Nat):∀(vs:List AV),aq vs=0->mV ρ vs=vs
 |[],_=>rfl
 |x::r,h=>by
  simp only[aq]at h;simp only[mV,iJ ρ x (rn h).1,fX ρ r (rn h).2]
end
theorem gX(ρ:Nat->Nat)(v:AV):(ren ρ v).cells=v.cells.map (ren ρ):=by cases v<;>simp[ren,AV.cells,fY]
theorem oq(ρ:Nat->Nat)(v:AV):cN (ren ρ v)=cN v:=by cases v<;>rfl
def jP(ρ:Nat->Nat)(n:Nat)(pl:Pl):Pl:=fun id=>if id<n then pl (ρ id)else none
theorem uJ{ρ:Nat->Nat}{n id:Nat}{p:Place}(h:id<n)(hp:pl (ρ id)=some p):jP ρ n pl id=some p:=by grind[jP]
theorem VRel.ren{ρ:Nat->Nat}{n:Nat}{u v:AV}{x:Value}(h:VRel pl M u x)(hu:u=Ev.ren ρ v)(ht:v.top<=n):VRel (jP ρ n pl) M v x:=by
 have elem:∀{xs:List AV}{i:Nat}{z:AV},xs[i]?=some z->(xs.map (Ev.ren ρ))[i]?=some (Ev.ren ρ z):=by grind
 have cel:∀{z y:AV}{j:Nat},z.cells[j]?=some y->(Ev.ren ρ z).cells[j]?=some (Ev.ren ρ y):=by grind[gX]
 have tp:∀{xs:List AV}{i j:Nat}{z y:AV},aq xs<=n->xs[i]?=some z->z.cells[j]?=some y->y.top<=n:=by
  intro xs i j x y h1 h2 h3;exact lU (dC.1 h1 x (bh h2)) (bh h3)
 have sc:∀{xs:List AV}{sz:Nat},(∀x,x∈xs.map (Ev.ren ρ)->x.cells.length=sz/\Sc x)->∀x,x∈xs->x.cells.length=sz/\Sc x:=by
  intro xs sz h x hx;obtain⟨h1,h2⟩:=h (Ev.ren ρ x) (wi hx);rw[gX]at h1;refine⟨by simp_all,fun y hy=>?_⟩;have:=h2 (Ev.ren ρ y) (by grind[gX]);grind[oq]
 induction h generalizing v with
 |bool b=>cases v<;>simp[Ev.ren]at hu;subst hu;exact .bool _
 |int k n=>cases v<;>simp[Ev.ren]at hu;obtain⟨rfl,rfl⟩:=hu;exact .int _ _
 |str s=>cases v<;>simp[Ev.ren]at hu;subst hu;exact .str _
 |nilp=>cases v<;>simp[Ev.ren]at hu;exact .nilp
 |ptr hp he ha=>
  cases v<;>simp[Ev.ren]at hu
  obtain⟨rfl,rfl,rfl,rfl⟩:=hu;simp only[AV.top]at ht;exact .ptr (uJ (by omega) hp) he ha
 |pptr hm hs hi hc ih=>
  cases v<;>simp[Ev.ren]at hu
  obtain⟨h1,rfl,rfl⟩:=hu;rw[fY]at h1;subst h1;simp only[AV.top]at ht;refine .pptr ⟨hm.1,hm.2.1,by simp_all,hm.2.2.2⟩ (sc hs) (by simp_all) (fun i z j y k1 k2=>ih i _ j _ (elem k1) (cel k2) rfl (tp ht k1 k2))
 |nils=>cases v<;>simp[Ev.ren]at hu;exact .nils
 |slice hp he hl hk ha=>
  cases v<;>simp[Ev.ren]at hu
  obtain⟨rfl,rfl,rfl,rfl,rfl⟩:=hu;simp only[AV.top]at ht;exact .slice (uJ (by omega) hp) he hl hk ha
 |sl0n _ ih=>
  cases v<;>simp[Ev.ren]at hu
  obtain⟨rfl,rfl,rfl,rfl⟩:=hu;exact .sl0n (ih (v:=.ls []) rfl (bA _))
 |sl0s _ ih=>
  cases v<;>simp[Ev.ren]at hu
  obtain⟨rfl,rfl,rfl,rfl⟩:=hu;exact .sl0s (ih (v:=.slice _ _ 0 _ _) rfl ht)
 |ps hl ht' hm hs hc ih=>
  cases v<;>simp[Ev.ren]at hu
  obtain⟨h1,rfl⟩:=hu;rw[fY]at h1;subst h1;simp only[AV.top]at ht;have:=VRel.ps (pl:=jP ρ n pl) (by simpa using hl) (by simpa using ht') (by simp_all) (sc hs) (fun i z j y k1 k2=>ih i _ j _ (elem k1) (cel k2) rfl (tp ht k1 k2));simp_all
 |lsn=>
  cases v<;>simp[Ev.ren]at hu
  subst hu;exact .lsn
 |lsp h ht0 ih=>
  cases v<;>simp[Ev.ren]at hu
  subst hu;exact .lsp (ih (v:=.ps _ false) (by grind[Ev.ren,fX]) (by grind[AV.top])) ht0
 |nilm=>cases v<;>simp[Ev.ren]at hu;exact .nilm
 |map hp ha=>
  cases v<;>simp[Ev.ren]at hu
  subst hu;simp only[AV.top]at ht;exact .map (uJ (by omega) hp) ha
 |func h1 h2 h3 h4 ih1 ih2=>
  cases v<;>simp[Ev.ren]at hu
  obtain⟨rfl,e1,e2⟩:=hu;rw[fY]at e1 e2;subst e1;subst e2;simp only[AV.top,qD]at ht;exact .func (by simp_all) (by simp_all) (fun j y hj=>ih1 j _ (elem hj) rfl (dC.1 ht.1 y (bh hj))) (fun j y hj=>ih2 j _ (elem hj) rfl (dC.1 ht.2 y (bh hj)))
 |nilf=>cases v<;>simp[Ev.ren]at hu;exact .nilf
 |iface _ ih=>
  cases v<;>simp[Ev.ren]at hu
  obtain⟨rfl,e1⟩:=hu;simp only[AV.top]at ht;exact .iface (ih e1 ht)
 |nili=>cases v<;>simp[Ev.ren]at hu;exact .nili
 |agg h1 h2 _ ih=>
  cases v<;>simp[Ev.ren]at hu
  rw[fY]at hu;subst hu;simp only[AV.top]at ht;refine .agg (by simp_all) (fun y hy=>?_) (fun j y hj=>ih j _ (elem hj) rfl (dC.1 ht y (bh hj)));grind[List.mem_map_of_mem,oq]
 |tuple h1 _ ih=>
  cases v<;>simp[Ev.ren]at hu
  rw[fY]at hu;subst hu;simp only[AV.top]at ht;exact .tuple (by simp_all) (fun j y hj=>ih j _ (elem hj) rfl (dC.1 ht y (bh hj)))
theorem bb.ren{ρ:Nat->Nat}{n:Nat}{o:AObj}{p:Place}{x:Option Obj}(h:bb pl M p (kU ρ o) x)(ht:o.top<=n):bb (jP ρ n pl) M p o x:=by
 match o,x with
 | .dead,_=>trivial
 | .row sz op ep xs,some (.cells c t fr)=>
  obtain⟨h1,h2,h3,h4,h5,h6,h7,h8⟩:=h;rw[fY]at h3 h7 h8;simp only[b9]at h3 h7;simp only[AObj.top]at ht;refine⟨h1,h2,h3,h4,h5,h6,h7,⟨by simpa using h8.fit,fun y hy=>?_,fun i z j y k1 k2=>?_⟩⟩
  ·obtain⟨q1,q2⟩:=h8.elem (Ev.ren ρ y) (wi hy);rw[gX]at q1;refine⟨by simp_all,fun u hu=>?_⟩;have:=q2 (Ev.ren ρ u) (by grind[gX]);grind[oq]
  ·exact(h8.cell i (Ev.ren ρ z) j (Ev.ren ρ y) (by simp_all) (by grind[gX])).ren rfl (lU (dC.1 ht z (bh k1)) (bh k2))
 | .map es clock,some (.map entries clock')=>
  obtain⟨h1,h2,h3,h4⟩:=h;rw[qp]at h3 h4;simp only[AObj.top]at ht;refine⟨h1,h2,by simp_all,fun i e hi=>?_⟩;obtain⟨e',k1,k2,k3,k4⟩:=h4 i ⟨Ev.ren ρ e.key,Ev.ren ρ e.val,e.born⟩ (by simp_all);have:=pm.1 ht e (bh hi);exact⟨e',k1,k2.ren rfl this.1,k3.ren rfl this.2,k4⟩
 | .siter s pos,some (.stringIter s' pos')=>exact h
 | .miter m clock seen,some (.mapIter m' since seen' stepped)=>simp only[AObj.top]at ht;exact⟨h.1,h.2.1,h.2.2.1.ren rfl ht,h.2.2.2⟩
end
noncomputable def ed(h:AHeap):Nat->Nat->Option (List AObj)
 |0,_=>some []
 |k+1,i=>match h.get i with
  |some o=>match ed h k (i+1)with|some l=>some (o::l)|none=>none
  |none=>none
section
variable{P:Program}{G:eB}{b:Option Nat}{ops:Array Oper}{l:List Oper}{o:Oper}{s s':St}{h h':AHeap}{v:AV}{A A':Fr}{call:cJ}{f:FuncId}{args:List AV}{c d:Code}
theorem dR:∀(k i:Nat)(os:List AObj),ed h k i=some os->os.length=k/\∀(j:Nat)(o:AObj),os[j]?=some o->h.get (i+j)=some o
 |0,i,os,e=>by simp[ed]at e;subst e;exact⟨rfl,fun j o h=>by simp at h⟩
 | k+1,i,os,e=>by
  simp only[ed]at e;cases hq:h.get i with
  |none=>rw[hq]at e;simp at e
  | some o'=>
   cases hr:ed h k (i+1)with
   |none=>rw[hq,hr]at e;simp at e
   |some r=>
    rw[hq,hr]at e;simp at e;subst e;obtain⟨h1,h2⟩:=dR k (i+1) r hr;refine⟨by simp[h1],fun j o hj=>?_⟩;cases j with
    |zero=>simp at hj;subst hj;simpa using hq
    |succ j=>rw[show i+(j+1)=i+1+j by omega];exact h2 j o (by simpa using hj)
end
end Go.Ev
namespace Go.Ev
open Go
abbrev WF:Ids:=⟨false,[],0,0⟩
abbrev rd(ids:List Nat):Rec:=⟨⟨false,ids,0,0⟩,WF⟩
abbrev wr(ids:List Nat)(n m:Nat):Rec:=⟨⟨false,ids,0,0⟩,⟨false,ids,n,m⟩⟩
abbrev cl(n:Nat):Rec:=⟨⟨true,[],n,n⟩,WF⟩
noncomputable abbrev dop(P:Program)(G:eB)(ops:Array Oper)(o:Oper):DOper:=⟨bI P G ops o,o.looksAt ops,de o.op,c9 o.op,0⟩
section
variable{P:Program}{G:eB}{b:Option Nat}{ops:Array Oper}{l rest:List Oper}{o:Oper}{h h' h1:AHeap}{v:AV}{call:cJ}{f:FuncId}{args:List AV}{k n t:Nat}{L:List (Nat×AV)}{rs:List Rec}{Φ:Fr->AHeap->Prop}
theorem sn.step{F F':Fr}{r:Rec}(hs:DSpec P G ops o (o.looksAt ops) F h v h1 r)(hcl:lf (eH (dS ops.toList 0 []) k) r rs k=true)(hp:ie F o.dst v=some F')(next:sn P G ops (k+1) rest F' h1 (r::rs) Φ):
  sn P G ops k (o::rest) F h rs Φ:=⟨v,h1,r,F',hs,hcl,hp,next⟩
theorem sn.done{F:Fr}(hn:Nat.ble h.n 1000000=true)(h0:Φ F h):sn P G ops k [] F h rs Φ:=⟨by rw[bU]at hn;simpa using hn,h0⟩
end
section
variable{P:Program}{G:eB}{b:Option Nat}{ops:Array Oper}{l:List Oper}{s:St}{call:cJ}
end
def Le(u v:AV):Prop:=∀(pl:Pl)(M:dl)(x:Value),VRel pl M v x->VRel pl M u x
theorem Le.refl(v:AV):Le v v:=fun _ _ _ h=>h
theorem Le.trans{a b c:AV}(h:Le a b)(k:Le b c):Le a c:=fun pl M x hx=>h pl M x (k pl M x hx)
theorem Le.nils:Le (.ls []) .nils:=fun _ _ _ h=>by cases h;exact .lsn
theorem Le.ps(xs:List AV)(t:Bool)(h0:aq xs=0):Le (.ls xs) (.ps xs t):=fun _ _ _ h=>.lsp h.loose h0
theorem Le.loose(xs:List AV)(t:Bool):Le (.ps xs false) (.ps xs t):=fun _ _ _ h=>h.loose
inductive Les:List AV->List AV->Prop
 |nil:Les [] []
 |cons {u v:AV} {us vs:List AV} (h:Le u v) (k:Les us vs):Les (u::us) (v::vs)
theorem Les.refl:∀(vs:List AV),Les vs vs
 |[]=>.nil
 |v::r=>.cons (Le.refl v) (Les.refl r)
theorem Les.len{us vs:List AV}(h:Les us vs):us.length=vs.length:=by
 induction h with
 |nil=>rfl
 |cons _ _ ih=>simp_all
theorem Les.at_{us vs:List AV}(h:Les us vs):∀(j:Nat)(u:AV),us[j]?=some u->∃v,vs[j]?=some v/\Le u v:=by
 induction h with
 |nil=>simp_all
 |cons h k ih=>grind
theorem VRels.le{pl:Pl}{M:dl}{us vs:List AV}{xs:Array Value}(h:VRels pl M vs xs)(hl:Les us vs):VRels pl M us xs:=
 ⟨hl.len.trans h.len,fun j u hj=>by
  obtain⟨v,h1,h2⟩:=hl.at_ j u hj;exact h2 _ _ _ (h.at_ j v h1)⟩
theorem Le.agg{us vs:List AV}(h:Les us vs)(hs:∀u,u∈us->cN u=true):Le (.agg us) (.agg vs):=by
 intro pl M x hx;cases hx with
 |agg h1 h2 h3=>
  refine .agg (h.len.trans h1) hs fun j u hj=>?_
  obtain⟨v,k1,k2⟩:=h.at_ j u hj;exact k2 _ _ _ (h3 j v k1)
theorem Le.tuple{us vs:List AV}(h:Les us vs):Le (.tuple us) (.tuple vs):=by
 intro pl M x hx;cases hx with
 |tuple h1 h3=>
  refine .tuple (h.len.trans h1) fun j u hj=>?_
  obtain⟨v,k1,k2⟩:=h.at_ j u hj;exact k2 _ _ _ (h3 j v k1)
section
variable{P:Program}{G:eB}{b:Option Nat}{ops:Array Oper}{l:List Oper}{o:Oper}{s s':St}{h h':AHeap}{v:AV}{A A':Fr}{f:FuncId}{args args':List AV}{c:Code}{n t:Nat}{L:List (Nat×AV)}
theorem aE.onArgs{Ψ:AV->AHeap->Prop}(hl:Les args' args)(hc:aE P G f args' h Ψ):aE P G f args h Ψ:=fun pl M w vs hg hr hv=>hc pl M w vs hg hr (hv.le hl)
theorem aL.onArgs(hl:Les args' args)(hc:aL P G f args' v):aL P G f args v:=fun h=>(hc h).onArgs hl
theorem aE.less{Ψ Ψ':AV->AHeap->Prop}(hc:aE P G f args h Ψ)(hi:∀v h',Ψ v h'->∃u,Le u v/\Ψ' u h'):aE P G f args h Ψ':=by
 intro pl M w vs hg hr hv;have key:∀cv v h' w',Ψ v h'->iX pl M h w v h' cv w'->∃u,Ψ' u h'/\iX pl M h w u h' cv w':=by
  intro cv v h' w' hp ⟨pl',M',k1,k2⟩;obtain⟨u,e1,e2⟩:=hi v h' hp;exact⟨u,e2,pl',M',e1 _ _ _ k1,k2⟩
 rcases hc pl M w vs hg hr hv with⟨h1,h2⟩|⟨cv,w',v,h',h1,h2,h3⟩
 ·refine .inl ⟨h1,Calls.mono h2 fun e w' ⟨cv,v,h',k1,k2,k3⟩=>?_⟩;grind
 ·obtain⟨u,z1,z2⟩:=key cv v h' w' h2 h3;exact .inr ⟨cv,w',u,h',h1,z1,z2⟩
theorem aL.less{u:AV}(hc:aL P G f args v)(hl:Le u v):aL P G f args u:=fun h=>(hc h).less fun v1 h1 ⟨e1,e2⟩=>⟨u,by simp_all,rfl,e2⟩
end
abbrev ax(b:Bool):Bool:=Bool.not b
theorem bQ(x:Int):ay x x=true:=by cases x<;>exact qV _
def kQ(x y:Int):Int:=match aB x y with|true=> -1|false=>match aB y x with|true=>1|false=>0
section
variable{P:Program}{G:eB}{b:Option Nat}{c:Code}{s:St}
end
theorem ub{b:Bool}(h:ax b=true):b=false:=by simp_all
theorem qA{b:Bool}(h:ax b=false):b=true:=by simp_all
theorem LP{α β:Type}(f:α->β):∀(xs:List α)(i:Nat),jo (xs.map f) i=(jo xs i).map f
 |[],_=>rfl
 |_::_,0=>rfl
 |_::r,i+1=>LP f r i
theorem pz{α:Type}:∀(xs:List α)(i:Nat),jo xs i=xs[i]?
 |[],i=>by simp[jo]
 |_::_,0=>rfl
 |_::r,i+1=>by simp[jo,pz r i]
theorem L4(a b:Nat):aB (.ofNat a) (.ofNat b)=Nat.blt a b:=rfl
theorem KH{a b:Nat}(h:a<b):Nat.blt a b=true:=tD h
theorem Q5{a b:Nat}(h:Nat.blt a b=true):a<b:=vf h
theorem Nj{a b:Nat}(h:¬a<b):Nat.blt a b=false:=by
 cases q:Nat.blt a b with
 |false=>rfl
 |true=>exact absurd (Q5 q) h
theorem XT{a b:Nat}(h:a<b):aB (.ofNat a) (.ofNat b)=true:=KH h
theorem U1{a b:Nat}(h:b<=a):aB (.ofNat a) (.ofNat b)=false:=by
 rw[L4];cases q:Nat.blt a b with
 |false=>rfl
 |true=>exact absurd (Q5 q) (by omega)
theorem v8{a b:Int}:aB a b=decide (a<b):=by
 cases a with
 |ofNat a=>cases b with
  |ofNat b=>grind[L4,KH,Nj]
  |negSucc b=>exact(decide_eq_false (fun h=>by grind)).symm
 | negSucc a=>cases b with
  |ofNat b=>exact(decide_eq_true (by grind)).symm
  |negSucc b=>
   show Nat.blt b a=_
   grind[KH,Nj]
section
variable{P:Program}{G:eB}{b:Option Nat}{c d:Code}{s:St}{n:Nat}{ops:Array Oper}{l:List Oper}{o:Oper}{h:AHeap}{v:AV}{L:List (Nat×AV)}
theorem IP{Φ:AExit->St->Prop}{x:Operand}{t:Bool}(h:t=true)(hx:(cj G x).run s.tmps=some (.bool t))(h1:am P G b c s Φ):am P G b (.cond x c d) s Φ:=am.cond hx (fun _=>h1) (fun k=>by grind)
theorem IR{Φ:AExit->St->Prop}{x:Operand}{t:Bool}(h:t=false)(hx:(cj G x).run s.tmps=some (.bool t))(h1:am P G b d s Φ):am P G b (.cond x c d) s Φ:=am.cond hx (fun k=>by grind) (fun _=>h1)
def LJ(fs:List FuncId)(call:cJ):cJ:=fun f args h=>match jU f fs with|true=>none|false=>call f args h
theorem yS{call:cJ}(fs:List FuncId)(hc:co P G call):co P G (LJ fs call):=by
 intro f args h v h' e;unfold LJ at e;split at e
 ·grind
 ·exact hc f args h v h' e
end
noncomputable def bV(h:AHeap):Nat->Option (List AObj)
 |0=>some []
 |k+1=>match bV h k,h.get k with|some l,some o=>some (l++[o])|_,_=>none
section
variable{P:Program}{G:eB}{c:Code}{n:Nat}{L:List (Nat×AV)}{h0:AHeap}
end
def b7(G:eB)(b:Option Nat)(s s':St):Prop:=∀(N:Nat)(h0:AHeap)(pl0:Pl)(M0:dl)(w0:World)(a:Act)(w:World),Wi b h0 pl0->SNow G N h0 pl0 M0 w0 s a w->SNow G N h0 pl0 M0 w0 s' a w
noncomputable section
def frzP(h:AHeap)(k n:Nat)(v:AV):Option AV:=
 match v with
 | .ptr id ep i off=>
  match Nat.blt id n with
  |true=>some v
  | false=>match h.get id with
   | some (.row _ _ ep' xs)=>
    match Nat.beq ep ep'&&Nat.blt i xs.length with
    |true=>match s9 (frz h k n) xs with
     |some ys=>some (.pptr ys i off)
     |none=>none
    |false=>none
   |_=>none
 |v=>frz h k n v
def R8(h:AHeap)(k n:Nat)(v:AV):Option AV:=
 match v with
 | .func fn a b=>match s9 (frz h k n) a,s9 (frzP h k n) b with
  |some a,some b=>some (.func fn a b)
  |_,_=>none
 |v=>frzP h k n v
def frzL(A:Fr)(h:AHeap)(n:Nat):List Nat->Option (List (Nat×AV))
 |[]=>some []
 | t::r=>match A.get t with
  | some v=>match R8 h jT n v with
   |some u=>match frzL A h n r with
    |some L=>some ((t,u)::L)
    |none=>none
   |none=>none
  |none=>none
end
mutual
def iU(ids:List Nat):AV->Bool
 | .ptr id ..=>jU id ids
 | .slice id ..=>jU id ids
 | .sl0 id ..=>jU id ids
 | .map id=>jU id ids
 | .func _ a b=>lj ids a&&lj ids b
 | .iface _ v=>iU ids v
 | .agg cs=>lj ids cs
 | .tuple cs=>lj ids cs
 | .ps xs _=>lj ids xs
 | .pptr xs _ _=>lj ids xs
 |_=>true
def lj(ids:List Nat):List AV->Bool
 |[]=>true
 |x::r=>iU ids x&&lj ids r
end
def x9(ids:List Nat):List AEnt->Bool
 |[]=>true
 |e::r=>iU ids e.key&&iU ids e.val&&x9 ids r
def tE(ids:List Nat):AObj->Bool
 | .row _ _ _ xs=>lj ids xs
 | .map es _=>x9 ids es
 | .miter m _ _=>iU ids m
 |_=>true
def jR(id:Nat):List Nat->Nat->Nat
 |[],_=>0
 |x::r,i=>match Nat.beq x id with|true=>i|false=>jR id r (i+1)
def f8:List Nat->Nat->Nat
 |[],_=>0
 |x::r,i=>match i with|0=>x|k+1=>f8 r k
noncomputable section
def NO(A:Fr)(ids:List Nat):List Nat->Option (List (Nat×AV))
 |[]=>some []
 | t::r=>match A.get t with
  | some v=>match iU ids v with
   |true=>match NO A ids r with
    |some L=>some ((t,ren (fun i=>jR i ids 0) v)::L)
    |none=>none
   |false=>none
  |none=>none
def zE:List Nat->Bool
 |[]=>true
 |x::r=>!jU x r&&zE r
def AA(ids:List Nat):Nat->Bool
 |0=>true
 |k+1=>Nat.beq (f8 ids k) k&&Nat.blt k ids.length&&AA ids k
end
section
variable{P:Program}{G:eB}{b:Option Nat}{ops:Array Oper}{l:List Oper}{o:Oper}{s s':St}{h h':AHeap}{v:AV}{A A':Fr}{f:FuncId}{args:List AV}{c:Code}{n t:Nat}{L:List (Nat×AV)}{pl pl':Pl}{M M':dl}{w w':World}
theorem b7.refl(s:St):b7 G b s s:=fun _ _ _ _ _ _ _ _ h=>h
theorem b7.trans{s1 s2 s3:St}(h:b7 G b s1 s2)(k:b7 G b s2 s3):b7 G b s1 s3:=fun N h0 pl0 M0 w0 a w hb hs=>k N h0 pl0 M0 w0 a w hb (h N h0 pl0 M0 w0 a w hb hs)
theorem b7.sub(hS:SubSt s' s):b7 G b s s':=fun _ _ _ _ _ _ _ _ hs=>hS.now hs
theorem am.weak{Φ:AExit->St->Prop}(hW:b7 G b s s')(h:am P G b c s' Φ):am P G b c s Φ:=fun N h0 pl0 M0 w0 a w Q hb hs hQ=>h N h0 pl0 M0 w0 a w Q hb (hW N h0 pl0 M0 w0 a w hb hs) hQ
theorem b8.weak{Φ:St->Prop}(hW:b7 G b s s')(h:b8 P G b ops l s' Φ):b8 P G b ops l s Φ:=fun i N h0 pl0 M0 w0 a w Q hb hl hs hQ=>h i N h0 pl0 M0 w0 a w Q hb hl (hW N h0 pl0 M0 w0 a w hb hs) hQ
theorem b7.fr(hn:A'.n=A.n)(hF:∀t u,A'.get t=some u->∃v,A.get t=some v/\Le u v):b7 G b ⟨A,h⟩ ⟨A',h⟩:=by
 intro N h0 pl0 M0 w0 a w hb ⟨⟨pl,M,g1,g2,g3,g4,g5⟩,k1,k2⟩;refine⟨⟨pl,M,g1,g2,⟨by grind[cases FrRel],g3.defers,fun t u ht=>?_⟩,g4,g5⟩,hn.trans k1,k2⟩;obtain⟨v,e1,e2⟩:=hF t u ht;obtain⟨q1,q2⟩:=g3.at_ t v e1;exact⟨by simp_all,e2 _ _ _ q2⟩
theorem b7.put{u:AV}(hs:A.n<=60000)(hv:A.get t=some v)(hl:Le u v)(hp:ie A (some t) u=some A'):b7 G b ⟨A,h⟩ ⟨A',h⟩:=by
 have hp':A.put t u=some A':=hp;have hn:A'.n=A.n:=by
  unfold Fr.put at hp';grind
 refine b7.fr hn fun t' u' ht=>?_
 obtain⟨_,_,h3⟩:=Fr.get_put hs hp' ht;grind[Le.refl]
theorem Le.elem{xs:List AV}{i off:Nat}{x:AV}(hx:jo xs i=some x):Le (.pptr [x] 0 off) (.pptr xs i off):=by
 rw[pz]at hx;intro pl M y hy;cases hy with
 | pptr hm hs hi hc=>
  rename_i a sz c;have hle:(i+1)*sz<=xs.length*sz:=eD _ hi;have:=VRel.pptr (pl:=pl) (M:=M) (xs:=[x]) (i:=0) (off:=off) (a:=⟨a.block,a.off+i*sz,none⟩) (sz:=sz) (c:=c) ⟨rfl,hm.2.1,by
   grind,hm.2.2.2⟩ (fun z hz=>by
    grind) (by simp) (fun k z j y' hk hj=>by
    grind)
  simp_all
theorem MG(hr:ct pl M h w){n:Nat}{Md:dl}(hmd:qW M Md)
  (hd:∀id p sz op ep xs c t fr,n<=id->pl id=some p->h.get id=some (.row sz op ep xs)->w.heap[p.blk]?=some (.cells c t fr)->Md p.blk=some c)
  (k:Nat)(v v':AV)(x:Value)(hv:VRel pl M v x)(e:frzP h k n v=some v'):VRel (dJ pl n) Md v' x:=by
 unfold frzP at e;split at e
 ·rename_i id ep i off;rw[dm]at e;by_cases hid:id<n
  ·simp[hid]at e;subst e;exact hv.agree (n:=n) (by grind[AV.top]) dN hmd
  ·simp only[hid,decide_false]at e;split at e
   ·rename_i sz op ep' xs hgo;split at e
    ·rename_i hck;simp only[ao,dm,bz,decide_eq_true_eq]at hck;obtain⟨rfl,hi⟩:=hck;split at e
     ·rename_i ys hys;cases e
      cases hv with
      | ptr hp he ha=>
       rename_i a p;have ho:=hr.obj id p _ hp hgo;cases hb:w.heap[p.blk]? with
       |none=>grind[bb]
       | some ob=>
        rw[hb]at ho;cases ob<;>simp only[bb]at ho
        rename_i c t fr;obtain⟨g1,g2,g3,g4,g5,g6,g7,g8⟩:=ho;have ha:=ha g1.symm;subst ha;obtain⟨m1,m2⟩:=gK hys;have cells:∀(i:Nat)(x y:AV),xs[i]?=some x->frz h k n x=some y->fZ x=true:=by
         intro i x y h1 h2;have he:=(g8.elem x (bh h1)).2;cases x<;>first|rfl|skip
         exact absurd (he _ (by simp[AV.cells];rfl)) (by simp[cN])
        have hfit:=g8.fit;have:=VRel.pptr (pl:=dJ pl n) (M:=Md) (xs:=ys) (i:=i) (off:=off) (a:=⟨p.blk,0,none⟩) (sz:=p.sz) (c:=c)
         ⟨rfl,hd _ _ _ _ _ _ _ _ _ (by omega) hp hgo hb,by simp_all,by omega⟩ (fun y hy=>by
          obtain⟨j,hj⟩:=Ck hy;obtain⟨x,k1,k2⟩:=m2 j y hj;have he:=g8.elem x (bh k1);grind[oB]) (by omega) (fun j y q u hj hu=>by
          obtain⟨x,k1,k2⟩:=m2 j y hj;have he:=g8.elem x (bh k1);grind[oB,mU,cases InMem])
        simp_all
     grind
    grind
   grind
 grind[mU]
theorem Vn(hr:ct pl M h w){n:Nat}{Md:dl}(hmd:qW M Md)
  (hd:∀id p sz op ep xs c t fr,n<=id->pl id=some p->h.get id=some (.row sz op ep xs)->w.heap[p.blk]?=some (.cells c t fr)->Md p.blk=some c)
  (k:Nat)(v v':AV)(x:Value)(hv:VRel pl M v x)(e:R8 h k n v=some v'):VRel (dJ pl n) Md v' x:=by
 unfold R8 at e;split at e
 ·split at e
  ·rename_i fn a b a' b' ha hb;cases e
   cases hv with
   |func h1 h2 h3 h4=>
    obtain⟨m1,m2⟩:=gK ha;obtain⟨m3,m4⟩:=gK hb;refine .func (m1▸h1) (m3▸h2) (fun j y hj=>?_) (fun j y hj=>?_);all_goals grind[mU,MG]
  grind
 grind[MG]
theorem qO:∀{ts:List Nat}{L:List (Nat×AV)},frzL A h n ts=some L->∀t u,(t,u)∈L->∃v,A.get t=some v/\R8 h jT n v=some u
 |[],L,e,t,u,hm=>by grind[frzL]
 | x::r,L,e,t,u,hm=>by
  simp only[frzL]at e;split at e
  ·rename_i v hv;split at e
   ·rename_i y hy;split at e
    ·rename_i L' hL;simp at e;subst e;rcases dO.1 hm with k|k
     ·simp_all
     ·exact qO hL t u k
    ·grind
   ·grind
  ·grind
def Plain(h:AHeap)(n:Nat)(v u:AV):Prop:=∀(pl:Pl)(M Md:dl)(w:World)(x:Value),ct pl M h w->qW M Md->
 (∀id p sz op ep xs c t fr,n<=id->pl id=some p->h.get id=some (.row sz op ep xs)->w.heap[p.blk]?=some (.cells c t fr)->Md p.blk=some c)->VRel pl M v x->VRel (dJ pl n) Md u x
theorem Plain.frz{h:AHeap}{n k:Nat}{v u:AV}(e:R8 h k n v=some u):Plain h n v u:=fun _ _ _ _ x hr hmd hd hv=>Vn hr hmd hd k v u x hv e
theorem Plain.slice{h:AHeap}{n id ep off len sz:Nat}{cap:Option Nat}{op:Bool}{xs ys:List AV}(hgo:h.get id=some (.row sz op ep xs))(hid:n<=id)(hy:(xs.drop off).take len=ys)(ht:aq ys=0):
  Plain h n (.slice id ep off len cap) (.ps ys (oa cap (some len))):=by
 intro pl M Md w x hr hmd hd hv;cases hv with
 | slice hp hle hl hk ha=>
  rename_i cap' a p;have ho:=hr.obj id p _ hp hgo;cases hb:w.heap[p.blk]? with
  |none=>grind[bb]
  | some ob=>
   rw[hb]at ho;cases ob<;>simp only[bb]at ho
   rename_i c t fr;obtain⟨g1,g2,g3,g4,g5,g6,g7,g8⟩:=ho;obtain⟨q1,q2,q3,q4,q5⟩:=ha (by omega);have hlen:ys.length=len:=by grind
   have src:∀(i:Nat)(y:AV),ys[i]?=some y->xs[off+i]?=some y/\i<len:=by grind
   have hys0:ys≠[]->a=⟨p.blk,off*p.sz,none⟩:=by
    intro hne;rcases q1 with hc0|hc1
    all_goals simp_all
   have hfit:off*p.sz+ys.length*p.sz<=c.size:=by
    rw[<-g4]
    calc off*p.sz+ys.length*p.sz=(off+ys.length)*p.sz:=by grind
     _<=(off+cap')*p.sz:=eD _ (by omega)
     _<=p.tot:=q2
   rw[<-hlen];refine VRel.ps (sz:=p.sz) (c:=c) (by omega) (fun ht=>?_) (fun hne=>?_) (fun y hy=>?_) (fun i y j u hi hu=>?_)
   ·cases cap with
    |none=>grind[oa]
    |some cc=>grind[oa,ao]
   ·grind
   ·grind[cases InMem]
   ·have hne:ys≠[]:=fun h0=>by simp_all
    rw[hys0 hne];obtain⟨k1,k2⟩:=src i y hi;have hz:=g8.cell _ _ j u k1 hu;have htop:u.top<=n:=bO (lU (dC.1 (wl ht) y (bh hi)) (bh hu)) (bA _);have:=hz.agree htop dN hmd;grind
theorem b7.frzP(hG:iT G){m k:Nat}{L:List (Nat×AV)}(hm:m<=k)(hk:k<=s.heap.n)(hc:fw s.heap k k=true)(e:∀t u,(t,u)∈L->∃v,s.tmps.get t=some v/\Plain s.heap k v u):b7 G (some m) s ⟨eZ s.tmps.n L,s.heap.cut k⟩:=by
 intro N h0 pl0 M0 w0 a w hb ⟨⟨pl,M,g1,g2,g3,g4,g5⟩,k1,k2⟩;obtain⟨b1,b2⟩:=hb m rfl;have hlow:∀id p,pl0 id=some p->id<k:=fun id p hp=>Ft (b2 id p hp) hm
 refine⟨⟨dJ pl k,lL pl M w k,(g1.none hG).mono (nE.refl _) (fh k),g2.dropped hk (fun id o q1 q2=>gk k hc id o q1 q2),⟨g3.size,g3.defers,fun t u ht=>?_⟩,⟨?_,?_,?_,g4.size,g4.kept,?_,?_,?_,?_,g4.os,g4.tape,g4.out,g4.drawn⟩,by show h0.n<=k;omega⟩,k1,k2⟩
 ·obtain⟨v,q1,q2⟩:=e t u (uc ht);obtain⟨q3,q4⟩:=g3.at_ t v q1;exact⟨q3,q2 _ _ _ _ _ g2 (fh k) (fun id p sz op ep xs c t fr z1 z2 _ z4=>oF g2 z1 z2 z4) q4⟩
 ·intro id p hp;obtain⟨p',q1,q2⟩:=g4.ext id p hp;exact⟨p',aG.2 ⟨hlow id p hp,q1⟩,q2⟩
 ·intro id hid hp;have:=g4.new id hid hp;cases hcp:dJ pl k id with
  |none=>rfl
  |some q=>rw[(aG.1 hcp).2]at this;omega
 ·exact fun b c hb=>fh k b c (g4.mem b c hb)
 ·exact fun id p' hp'=>g4.blks id p' (aG.1 hp').2
 ·intro id p hp hg;have:=g4.live id p hp hg;cases hcp:(s.heap.cut k).get id with
  |none=>rfl
  |some o=>grind[iY]
 ·exact fun id p hp hg=>aG.2 ⟨hlow id p hp,g4.stay id p hp hg⟩
 ·intro b c hb;rcases iL hb with q|⟨⟨id,p,q1,q2,q3⟩,_⟩
  ·exact g4.memNew b c q
  ·rcases g4.blks id p q2 with⟨p0,q4,_⟩|q4
   all_goals grind
theorem b7.frz(hG:iT G){m k:Nat}{ts:List Nat}(hm:m<=k)(hk:k<=s.heap.n)(hc:fw s.heap k k=true)(e:frzL s.tmps s.heap k ts=some L):b7 G (some m) s ⟨eZ s.tmps.n L,s.heap.cut k⟩:=b7.frzP hG hm hk hc fun t u h=>by grind[qO,Plain.frz]
theorem Qt{ids:List Nat}{id:Nat}(i:Nat)(h:jU id ids=true):i<=jR id ids i/\f8 ids (jR id ids i-i)=id/\jR id ids i-i<ids.length:=by
 induction ids generalizing i with
 |nil=>grind[jU]
 | cons x r ih=>
  simp only[jU,tC]at h;simp only[jR];cases hb:Nat.beq x id with
  |true=>simp_all[f8]
  |false=>
   rcases h with h|h
   ·grind
   ·obtain⟨k1,k2,k3⟩:=ih (i+1) h;simp only[];refine⟨by omega,?_,by grind⟩;rw[show jR id r (i+1)-i=(jR id r (i+1)-(i+1))+1 by omega];exact k2
theorem uU{ids:List Nat}{id:Nat}(h:jU id ids=true):jR id ids 0<ids.length/\f8 ids (jR id ids 0)=id:=by grind[Qt]
mutual
theorem oz{ids:List Nat}:∀(v:AV),iU ids v=true->ren (f8 ids) (ren (fun i=>jR i ids 0) v)=v/\(ren (fun i=>jR i ids 0) v).top<=ids.length
 | .ptr id ..,h=>by simp only[iU]at h;obtain⟨h1,h2⟩:=uU h;exact⟨by simp only[ren,h2],by simp only[ren,AV.top];omega⟩
 | .slice id ..,h=>by simp only[iU]at h;obtain⟨h1,h2⟩:=uU h;exact⟨by simp only[ren,h2],by simp only[ren,AV.top];omega⟩
 | .sl0 id ..,h=>by simp only[iU]at h;obtain⟨h1,h2⟩:=uU h;exact⟨by simp only[ren,h2],by simp only[ren,AV.top];omega⟩
 | .map id,h=>by simp only[iU]at h;obtain⟨h1,h2⟩:=uU h;exact⟨by simp only[ren,h2],by simp only[ren,AV.top];omega⟩
 | .func fn a b,h=>by
  simp only[iU,bz]at h;obtain⟨k1,k2⟩:=jO a h.1;obtain⟨q1,q2⟩:=jO b h.2;exact⟨by simp only[ren,k1,q1],by simp only[ren,AV.top];exact qD.2 ⟨k2,q2⟩⟩
 | .iface t v,h=>by simp only[iU]at h;obtain⟨k1,k2⟩:=oz v h;exact⟨by simp only[ren,k1],by simpa only[ren,AV.top]using k2⟩
 | .agg cs,h=>by simp only[iU]at h;obtain⟨k1,k2⟩:=jO cs h;exact⟨by simp only[ren,k1],by simpa only[ren,AV.top]using k2⟩
 | .tuple cs,h=>by simp only[iU]at h;obtain⟨k1,k2⟩:=jO cs h;exact⟨by simp only[ren,k1],by simpa only[ren,AV.top]using k2⟩
 | .ps xs t,h=>by simp only[iU]at h;obtain⟨k1,k2⟩:=jO xs h;exact⟨by simp only[ren,k1],by simpa only[ren,AV.top]using k2⟩
 | .pptr xs i o,h=>by simp only[iU]at h;obtain⟨k1,k2⟩:=jO xs h;exact⟨by simp only[ren,k1],by simpa only[ren,AV.top]using k2⟩
 | .ls xs,_=>⟨rfl,bA _⟩
 | .bool b,_=>⟨rfl,bA _⟩
 | .int k n,_=>⟨rfl,bA _⟩
 | .str s,_=>⟨rfl,bA _⟩
 | .nilp,_=>⟨rfl,bA _⟩
 | .nils,_=>⟨rfl,bA _⟩
 | .nilm,_=>⟨rfl,bA _⟩
 | .nilf,_=>⟨rfl,bA _⟩
 | .nili,_=>⟨rfl,bA _⟩
theorem jO{ids:List Nat}:∀(vs:List AV),lj ids vs=true->mV (f8 ids) (mV (fun i=>jR i ids 0) vs)=vs/\aq (mV (fun i=>jR i ids 0) vs)<=ids.length
 |[],_=>⟨rfl,bA _⟩
 |x::r,h=>by
  simp only[lj,bz]at h;obtain⟨k1,k2⟩:=oz x h.1;obtain⟨q1,q2⟩:=jO r h.2;exact⟨by simp only[mV,k1,q1],by simp only[mV,aq];exact qD.2 ⟨k2,q2⟩⟩
end
theorem CD{ids:List Nat}:∀(es:List AEnt),x9 ids es=true->kq (f8 ids) (kq (fun i=>jR i ids 0) es)=es/\fx (kq (fun i=>jR i ids 0) es)<=ids.length
 |[],_=>⟨rfl,bA _⟩
 |e::r,h=>by
  simp only[x9,bz]at h;obtain⟨k1,k2⟩:=oz e.key h.1.1;obtain⟨z1,z2⟩:=oz e.val h.1.2;obtain⟨q1,q2⟩:=CD r h.2;exact⟨by simp_all[kq],by simp only[kq,fx];exact qD.2 ⟨qD.2 ⟨k2,z2⟩,q2⟩⟩
theorem NN{ids:List Nat}(o:AObj)(h:tE ids o=true):kU (f8 ids) (kU (fun i=>jR i ids 0) o)=o/\(kU (fun i=>jR i ids 0) o).top<=ids.length:=by
 cases o with
 |row a b c xs=>grind[tE,jO,kU,AObj.top]
 |map es c=>grind[tE,CD,kU,AObj.top]
 |dead=>exact⟨rfl,bA _⟩
 |siter s p=>exact⟨rfl,bA _⟩
 |miter m c s=>grind[tE,oz,kU,AObj.top]
theorem Gg{ids:List Nat}:∀{ts:List Nat}{L:List (Nat×AV)},NO A ids ts=some L->∀t u,(t,u)∈L->∃v,A.get t=some v/\iU ids v=true/\u=ren (fun i=>jR i ids 0) v
 |[],L,e,t,u,hm=>by grind[NO]
 | x::r,L,e,t,u,hm=>by
  simp only[NO]at e;split at e
  ·rename_i v hv;split at e
   ·rename_i hw;split at e
    ·rename_i L' hL;simp at e;subst e;rcases dO.1 hm with k|k
     ·simp_all
     ·exact Gg hL t u k
    ·grind
   ·grind
  ·grind
theorem Hx:∀{ids:List Nat}{i:Nat},i<ids.length->ids[i]?=some (f8 ids i)
 |x::r,0,_=>rfl
 |x::r,i+1,h=>by simpa[f8]using Hx (ids:=r) (i:=i) (by simp_all)
theorem rg:∀{ids:List Nat},zE ids=true->∀i j,i<ids.length->j<ids.length->f8 ids i=f8 ids j->i=j
 | x::r,h,i,j,hi,hj,e=>by
  simp only[zE,bz,Bool.not_eq_true']at h;have hx:∀k,k<r.length->f8 r k≠x:=by
   intro k hk e;have:=bh (Hx hk);rw[e]at this;have:=om.2 this;simp_all
  cases i with
  |zero=>cases j with
   |zero=>rfl
   |succ j=>exact absurd e.symm (hx j (by simp_all))
  |succ i=>cases j with
   |zero=>exact absurd e (hx i (by simp_all))
   |succ j=>have:=rg h.2 i j (by simp_all) (by simp_all) e;omega
theorem Dk{ids:List Nat}:∀{m:Nat},AA ids m=true->∀i,i<m->f8 ids i=i/\i<ids.length
 |0,_,i,hi=>by omega
 |k+1,h,i,hi=>by
  simp only[AA,bz,ao,dm,decide_eq_true_eq]at h;by_cases e:i=k
  ·simp_all
  ·exact Dk h.2 i (by omega)
theorem Py(hG:iT G){m:Nat}{ids ts:List Nat}{os:List AObj}(h1:zE ids=true)(h2:AA ids m=true)(e1:NO s.tmps ids ts=some L)(o1:os.length=ids.length)
  (o2:∀(j:Nat)(o':AObj),os[j]?=some o'->∃o,s.heap.get (f8 ids j)=some o/\kU (f8 ids) o'=o/\o'.top<=ids.length):
  b7 G (some m) s ⟨eZ s.tmps.n L,aa os⟩:=by
 intro N h0 pl0 M0 w0 a w hb ⟨⟨pl,M,g1,g2,g3,g4,g5⟩,k1,k2⟩;obtain⟨b1,b2⟩:=hb m rfl;have hm:∀i,i<m->f8 ids i=i/\i<ids.length:=Dk h2;have hlen:(aa os).n=ids.length:=o1;have some_:∀{id p},jP (f8 ids) ids.length pl id=some p->id<ids.length/\pl (f8 ids id)=some p:=by grind[jP]
 have low:∀{id p},pl0 id=some p->∀{q},pl id=some q->jP (f8 ids) ids.length pl id=some q:=by grind[jP]
 have blk:∀{id p'},jP (f8 ids) ids.length pl id=some p'->(∃p,pl0 id=some p/\p.blk=p'.blk)\/w0.heap.size<=p'.blk:=by
  intro id p' hp;obtain⟨q1,q2⟩:=some_ hp;rcases g4.blks _ p' q2 with⟨p0,y1,y2⟩|y
  all_goals grind[rg]
 refine⟨⟨jP (f8 ids) ids.length pl,M,g1.none hG,⟨fun id p hp=>by simp_all,fun id p o hp hg=>?_,fun id p hp=>g2.blk _ p (some_ hp).2,fun id id' p p' q1 q2 e=>rg h1 id id' (some_ q1).1 (some_ q2).1 (g2.inj _ _ p p' (some_ q1).2 (some_ q2).2 e),g2.imm,fun id p hp=>g2.sep _ p (some_ hp).2⟩,
  ⟨g3.size,g3.defers,fun t u ht=>?_⟩,⟨fun id p hp=>?_,fun id hid hp=>?_,g4.mem,g4.size,g4.kept,fun id p hp=>blk hp,fun id p hp hg=>?_,fun id p hp hg=>low hp (g4.stay id p hp hg),g4.memNew,g4.os,g4.tape,g4.out,g4.drawn⟩,?_⟩,k1,k2⟩
 ·obtain⟨q1,q2⟩:=some_ hp;obtain⟨o',y1,z1,z2⟩:=o2 id o (nL hg);exact bb.ren (ρ:=f8 ids) (by rw[z1];exact g2.obj _ p _ q2 y1) z2
 ·obtain⟨v,q1,q2,q3⟩:=Gg e1 t u (uc ht);subst q3;obtain⟨z1,z2⟩:=oz v q2;obtain⟨q3,q4⟩:=g3.at_ t v q1;exact⟨q3,q4.ren z1.symm z2⟩
 ·obtain⟨p',q1,q2⟩:=g4.ext id p hp;simp_all
 ·have hid':id<m:=by omega
  have:=g4.new id hid hp;cases hr:jP (f8 ids) ids.length pl id with
  |none=>rfl
  |some q=>grind
 ·have hk:=g4.live id p hp hg;cases hr:(aa os).get id with
  |none=>rfl
  |some o=>
   obtain⟨o',y1,_⟩:=o2 id o (nL hr);grind
 grind
theorem sy(ρ:Nat->Nat):∀(es:List AEnt),fx es=0->kq ρ es=es
 |[],_=>rfl
 |e::r,h=>by
  simp only[fx]at h;have h1:=rn h;have h2:=rn h1.1;simp_all[kq,iJ,sy]
theorem Jc(ρ:Nat->Nat)(o:AObj)(h:o.top=0):kU ρ o=o:=by
 cases o with
 |row a b c xs=>grind[AObj.top,kU,fX]
 |map es c=>grind[AObj.top,kU,sy]
 |dead=>rfl
 |siter s p=>rfl
 |miter m c s=>grind[AObj.top,kU,iJ]
theorem Pa(hG:iT G){m k:Nat}{ts:List Nat}{os:List AObj}{t id ep off len sz:Nat}{cap:Option Nat}{op:Bool}{xs ys:List AV}(hm:m<=k)(hk:k<=s.heap.n)(hc:fw s.heap k k=true)(e:Ev.frzL s.tmps s.heap k ts=some L)(eo:ed s.heap k 0=some os)
  (et:s.tmps.get t=some (.slice id ep off len cap))(hid:k<=id)(hg:s.heap.get id=some (.row sz op ep xs))(hy:(xs.drop off).take len=ys)(ht:aq ys=0):
  b7 G (some m) s ⟨eZ s.tmps.n ((t,.ps ys (oa cap (some len)))::L),aa os⟩:=by
 refine b7.trans (b7.frzP (L:=(t,.ps ys (oa cap (some len)))::L) hG hm hk hc fun t' u h=>?_) (b7.sub ⟨rfl,fun _ _ h=>h,?_,fun id o hh=>?_⟩)
 ·grind[Plain.slice,qO,Plain.frz]
 ·obtain⟨k1,_⟩:=dR _ _ _ eo;show k<=(aa os).n
  grind[aa]
 ·obtain⟨k1,k2⟩:=dR _ _ _ eo;have h1:=nL hh;have h2:=k2 id o h1;have hlt:id<k:=by grind
  rw[fL,AHeap.get_some]at h2;exact AHeap.get_some.2 ⟨hlt,h2.2.1,h2.2.2⟩
theorem b7.frzL(hG:iT G){m k:Nat}{ts:List Nat}{os:List AObj}(hm:m<=k)(hk:k<=s.heap.n)(hc:fw s.heap k k=true)(e:Ev.frzL s.tmps s.heap k ts=some L)(eo:ed s.heap k 0=some os):
  b7 G (some m) s ⟨eZ s.tmps.n L,aa os⟩:=by
 refine b7.trans (b7.frz hG hm hk hc e) (b7.sub ⟨rfl,fun _ _ h=>h,?_,fun id o hh=>?_⟩)
 ·obtain⟨k1,_⟩:=dR _ _ _ eo;show k<=(aa os).n
  grind[aa]
 ·obtain⟨k1,k2⟩:=dR _ _ _ eo;have h1:=nL hh;have h2:=k2 id o h1;have hlt:id<k:=by grind
  rw[fL,AHeap.get_some]at h2;exact AHeap.get_some.2 ⟨hlt,h2.2.1,h2.2.2⟩
theorem b7.psh{b:Option Nat}{o:AObj}:b7 G b s ⟨s.tmps,s.heap.push o⟩:=by
 intro N h0 pl0 M0 w0 a w hb ⟨⟨pl,M,g1,g2,g3,g4,g5⟩,k1,k2⟩;refine⟨⟨pl,M,g1,⟨fun id p hp=>Nat.lt_succ_of_lt (g2.dom id p hp),fun id p o' hp hg=>?_,g2.blk,g2.inj,g2.imm,g2.sep⟩,g3,⟨g4.ext,g4.new,g4.mem,g4.size,g4.kept,g4.blks,fun id p hp hg=>?_,g4.stay,g4.memNew,g4.os,g4.tape,g4.out,g4.drawn⟩,Nat.le_succ_of_le g5⟩,k1,k2⟩
 ·rcases dY hg with⟨rfl,_⟩|⟨_,h2⟩
  ·exact absurd (g2.dom _ p hp) (wm _)
  ·exact g2.obj id p o' hp h2
 ·have:=g4.live id p hp hg;cases hh:(s.heap.push o).get id with
  |none=>rfl
  |some o'=>
   rcases dY hh with⟨rfl,_⟩|⟨_,h2⟩
   ·obtain⟨p',e1,_⟩:=g4.ext _ p hp;exact absurd (g2.dom _ p' e1) (wm _)
   simp_all
theorem Le.sl0{id ep len:Nat}{cap:Option Nat}:Le (.sl0 id ep len cap) (.slice id ep 0 len cap):=fun _ _ _ h=>.sl0s h
theorem Fb{id ep:Nat}{cap:Option Nat}:Le (.sl0 id ep 0 cap) (.ls []):=fun _ _ _ h=>.sl0n h
theorem Le.sl0n{id ep:Nat}{cap:Option Nat}:Le (.sl0 id ep 0 cap) .nils:=Le.trans Fb Le.nils
theorem b7.val{b:Option Nat}{t:Nat}{v u:AV}{A':Fr}(hs:s.tmps.n<=60000)(hv:s.tmps.get t=some v)(hl:∀(pl:Pl)(M:dl)(x:Value),VRel pl M v x->VRel pl M u x)(hp:ie s.tmps (some t) u=some A'):b7 G b s ⟨A',s.heap⟩:=b7.put (A:=s.tmps) (h:=s.heap) hs hv hl hp
theorem Plain.sl0{h:AHeap}{n id ep len sz:Nat}{cap:Option Nat}{op:Bool}{xs ys:List AV}(hgo:h.get id=some (.row sz op ep xs))(hid:n<=id)(hy:(xs.drop 0).take len=ys)(ht:aq ys=0):
  Plain h n (.sl0 id ep len cap) (.ls ys):=by
 intro pl M Md w x hr hmd hd hv;cases hv with
 |sl0s hv=>exact .lsp (Plain.slice hgo hid hy ht pl M Md w x hr hmd hd hv).loose ht
 |sl0n hv=>
  rw[CU]at hy;subst hy;exact hv.agree (n:=n) (bA _) dN hmd
noncomputable def DQ(A:Fr):List Nat->Option (List (Nat×AV))
 |[]=>some []
 |t::r=>match A.get t,DQ A r with
  |some v,some L=>some ((t,v)::L)
  |_,_=>none
noncomputable def GS(A:Fr)(k:Nat):List Nat->Prop
 |[]=>True
 |t::r=>(match A.get t with|some v=>v.top<=k|none=>False)/\GS A k r
theorem C9{A:Fr}{k:Nat}:∀{ts:List Nat}{L:List (Nat×AV)},DQ A ts=some L->GS A k ts->∀t u,(t,u)∈L->A.get t=some u/\u.top<=k
 |[],L,e,_,t,u,h=>by grind[DQ]
 | x::r,L,e,hl,t,u,h=>by
  simp only[DQ]at e;simp only[GS]at hl;split at e
  ·rename_i v L' hv hL;cases e
   rw[hv]at hl;rcases dO.1 h with h|h
   ·simp_all
   ·exact C9 hL hl.2 t u h
  grind
theorem b7.frl(hG:iT G){m k:Nat}{ts ls:List Nat}{K:List (Nat×AV)}{os:List AObj}(hm:m<=k)(hk:k<=s.heap.n)(hc:fw s.heap k k=true)(e:Ev.frzL s.tmps s.heap k ts=some L)(eK:DQ s.tmps ls=some K)(hl:GS s.tmps k ls)(eo:ed s.heap k 0=some os):
  b7 G (some m) s ⟨eZ s.tmps.n (K++L),aa os⟩:=by
 refine b7.trans (b7.frzP (L:=K++L) hG hm hk hc fun t' u h=>?_) (b7.sub ⟨rfl,fun _ _ h=>h,?_,fun id o hh=>?_⟩)
 ·rcases fK.1 h with h|h
  ·obtain⟨q1,q2⟩:=C9 eK hl t' u h;exact⟨u,q1,fun pl M Md w x hr hmd _ hv=>hv.agree q2 dN hmd⟩
  grind[qO,Plain.frz]
 ·obtain⟨k1,_⟩:=dR _ _ _ eo;show k<=(aa os).n
  grind[aa]
 ·obtain⟨k1,k2⟩:=dR _ _ _ eo;have h1:=nL hh;have h2:=k2 id o h1;have hlt:id<k:=by grind
  rw[fL,AHeap.get_some]at h2;exact AHeap.get_some.2 ⟨hlt,h2.2.1,h2.2.2⟩
theorem K6{u:AV}{Φ:St->Prop}(hg:ez s.tmps (dT ops o)=some true)(e:(eT P G o.op).run s.tmps s.heap=some (.val v h'))(hl:Le u v)(hp:ie s.tmps o.dst u=some A')(h:b8 P G b ops l ⟨A',h'⟩ Φ):b8 P G b ops (o::l) s Φ:=by
 intro i N h0 pl0 M0 w0 a w Q hb hl' hs hQ;have ho:ops[i]?=some o:=by simpa using hl' 0
 obtain⟨pl,M,g1,g2,g3,g4,g5⟩:=hs.ex;simp only[cM,yF,wpOps,ho];rw[fQ g3 hg];simp only[if_true];left;obtain⟨dst,op,ty,pos,after,guard⟩:=o;obtain⟨pl',M',cv,w',nx,q1,q2,q3,q4,q5,q6⟩:=zF (P:=P) (G:=G) op pl M s.tmps s.heap v h' a w dst ty pos after guard g1 g2 g3 e;obtain⟨p1,p2⟩:=ly (g3.mono q5.ext q5.mem) (hl _ _ _ q3) (by rw[hs.n];exact hs.small) hp;have key:SNow G N h0 pl0 M0 w0 ⟨A',h'⟩ (a.put dst cv) w':=⟨⟨pl',M',g1.mono q5.ext q5.mem,q4,p1,g4.trans q5 g5,bO g5 q6⟩,by rw[<-hs.n];omega,hs.small⟩
 have nxt:=h (i+1) N h0 pl0 M0 w0 _ w' Q hb (fun j=>by have:=hl' (j+1);grind) key hQ;unfold Oper.wp;rw[q1];rcases q2 with rfl|⟨rfl,rfl⟩
 ·exact nxt
 ·exact nxt
theorem DSpec.effS{F:Fr}{h1:AHeap}(hg:ez ⟨F.n,bN F (o.looksAt ops) .nil⟩ (dT ops o)=some true)(e:(eT P G o.op).run ⟨F.n,bN F (o.looksAt ops) .nil⟩ h=some (.call f args))
  (ht:ip F h.n (o.looksAt ops)=true)(ho:∀id o',h.get id=some o'->o'.top<=h.n)(hle:h.n<=h1.n)(hsame:∀id,id<h.n->h1.get id=h.get id)(hf:aE P G f args h (fun v1 h2=>v1=v/\h2=h1)):
  DSpec P G ops o (o.looksAt ops) F h v h1 ⟨⟨true,[],h.n,h.n⟩,⟨false,[],h.n,h1.n⟩⟩:=by
 refine⟨hle,fun id o' hno hg1=>?_,fun id k1 k2=>.inr (.inr ⟨k1,k2⟩),?_⟩
 ·have hlt:=(AHeap.get_some.1 hg1).1;rcases fm id h.n with k|k
  ·simp_all
  ·exact absurd (.inr (.inr ⟨k,hlt⟩)) hno
 ·intro nk n0 g pl M a w K Q hn0 hnk hbig hr hvis hU hG hs hdf hF hK;have hf0:FrRel pl M ⟨F.n,bN F (o.looksAt ops) .nil⟩ a:=gN hs hdf hF;rw[fQ hf0 hg];simp only[if_true];left;have hvg:∀id o,h.get id=some o->g id=some o:=fun id o' hh=>hvis id o' (.inl ⟨rfl,(AHeap.get_some.1 hh).1⟩) hh
  have hfr:=rY (M:=M) hs hdf ht hF;let W:Nat->Prop:=fun id=>h.n<=id/\id<h1.n
  refine wI (W:=W) hr (af _) hvg ho hfr hG e hf (.inr hnk) hU (fun id k1 k2 k3=>hsame id k1) (fun id k1 k2=>?_) (fun id k1=>k1.2) (fun id k1 k2=>⟨k1,k2⟩) ?_
  ·omega
  ·intro cv w' pl' M' r1 r2 r3 r4 r5;refine hK cv w' pl' M' _ r1 (r2.weaken hn0) r3 r4 (fun id hp hh=>?_) (fun id hno=>gM fun hW=>?_) (fun id o' hyes hg1=>?_)
   ·rcases hh with hh|hh
    ·exact r2.new id hh hp
    simp_all
   ·exact hno (.inr (.inr hW))
   ·have hW:W id:=by
     rcases hyes with⟨k1,k2⟩|k|k
     all_goals grind
    grind[mB]
theorem DSpec.eff{F:Fr}{h1:AHeap}(hg:ez ⟨F.n,bN F (o.looksAt ops) .nil⟩ (dT ops o)=some true)(e:(eT P G o.op).run ⟨F.n,bN F (o.looksAt ops) .nil⟩ h=some (.call f args))
  (ht:ip F h.n (o.looksAt ops)=true)(ho:∀id o',h.get id=some o'->o'.top<=h.n)(hle:h.n<=h1.n)(hfew:∀id,id<h.n->h.get id=none->h1.get id=none)(hf:aE P G f args h (fun v1 h2=>v1=v/\h2=h1)):
  DSpec P G ops o (o.looksAt ops) F h v h1 ⟨⟨true,[],h.n,h.n⟩,⟨true,[],h.n,h1.n⟩⟩:=by
 refine⟨hle,fun id o' hno hg1=>?_,fun id k1 k2=>.inr (.inr ⟨k1,k2⟩),?_⟩
 ·have hlt:=(AHeap.get_some.1 hg1).1;rcases fm id h.n with k|k
  ·exact absurd (.inl ⟨rfl,k⟩) hno
  ·exact absurd (.inr (.inr ⟨k,hlt⟩)) hno
 ·intro nk n0 g pl M a w K Q hn0 hnk hbig hr hvis hU hG hs hdf hF hK;have hf0:FrRel pl M ⟨F.n,bN F (o.looksAt ops) .nil⟩ a:=gN hs hdf hF;rw[fQ hf0 hg];simp only[if_true];left;have hvg:∀id o,h.get id=some o->g id=some o:=fun id o' hh=>hvis id o' (.inl ⟨rfl,(AHeap.get_some.1 hh).1⟩) hh
  have hfr:=rY (M:=M) hs hdf ht hF;let W:Nat->Prop:=fun id=>(id<h.n/\h.get id≠none)\/(h.n<=id/\id<h1.n)
  refine wI (W:=W) hr (af _) hvg ho hfr hG e hf (.inr hnk) hU (fun id k1 k2 k3=>absurd (.inl ⟨k1,k3⟩) k2) (fun id k1 k2=>?_) (fun id k1=>?_) (fun id k1 k2=>.inr ⟨k1,k2⟩) ?_
  ·grind
  ·omega
  ·intro cv w' pl' M' r1 r2 r3 r4 r5;refine hK cv w' pl' M' _ r1 (r2.weaken hn0) r3 r4 (fun id hp hh=>?_) (fun id hno=>gM fun hW=>?_) (fun id o' hyes hg1=>?_)
   ·rcases hh with hh|hh
    ·exact r2.new id hh hp
    simp_all
   ·rcases hW with⟨k1,k2⟩|k
    ·exact hno (.inl ⟨rfl,k1⟩)
    ·exact hno (.inr (.inr k))
   ·have hW:W id:=by
     rcases hyes with⟨k1,k2⟩|k|k
     all_goals grind
    grind[mB]
theorem b8.skip{Φ:St->Prop}(hg:ez s.tmps (dT ops o)=some false)(hp:ie s.tmps o.dst gj=some A')(h:b8 P G b ops l ⟨A',s.heap⟩ Φ):b8 P G b ops (o::l) s Φ:=by
 refine b8.one (call:=zP) C2 ?_ h;grind[zV,bI,fin]
end
end Go.Ev
