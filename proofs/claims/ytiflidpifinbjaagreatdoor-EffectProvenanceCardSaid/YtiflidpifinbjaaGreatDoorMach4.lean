/- An abstract machine for runs of the program, proved sound against the model: part 4. No conditions. -/
import Derived.Test.YtiflidpifinbjaaGreatDoorMach3
import Derived.OpenShut
import Derived.ChangeArms
import Derived.ProofKit
import Derived.LaidMore
import Derived.IntWalk
namespace Go.Ev
open Go
def Xd(b:lan)(h0:AHeap)(pl0:Pl):Prop:=∀m,b=some m->h0.n=m/\∀id p,pl0 id=some p->id<m
def Ux(P:Program)(pl:Pl)(M:dN)(h:AHeap)(w:World)(f:FuncId)(vs:Array Value)(Ψ:AV->AHeap->Prop):Prop:=
 ((callFunc f vs).run P w=.ok (.enter f vs) w/\Calls P f vs w λe w'=>∃cv v h',e=.returned cv/\Ψ v h'/\ip pl M h w v h' cv w')\/
 (∃cv w' v h',(callFunc f vs).run P w=.ok (.value cv) w'/\Ψ v h'/\ip pl M h w v h' cv w')
def aO(P:Program)(G:fz)(f:FuncId)(args:laa)(h:AHeap)(Ψ:AV->AHeap->Prop):Prop:=∀(pl:Pl)(M:dN)(w:World)(vs:Array Value),qc G pl M->cS pl M h w->VRels pl M args vs->Ux P pl M h w f vs Ψ
def aA(P:Program)(G:fz)(b:lan)(c:Code)(s:St)(Φ:AExit->St->Prop):Prop:=
 ∀(N:Nat)(h0:AHeap)(pl0:Pl)(M0:dN)(w0:World)(a:Act)(w:World)(Q:Exit->Act->World->Prop),Xd b h0 pl0->SNow G N h0 pl0 M0 w0 s a w->
  (∀e s' a1 w1,Φ e s'->SNow G N h0 pl0 M0 w0 s' a1 w1->Q (wJ e) a1 w1)->c.wp P Q a w
def cE(P:Program)(G:fz)(b:lan)(ops:Array Oper)(l:las)(s:St)(Φ:St->Prop):Prop:=
 ∀(i:Nat)(N:Nat)(h0:AHeap)(pl0:Pl)(M0:dN)(w0:World)(a:Act)(w:World)(Q:Exit->Act->World->Prop),Xd b h0 pl0->(∀j,ops[i+j]?=l[j]?)->SNow G N h0 pl0 M0 w0 s a w->
  (∀s' a1 w1,Φ s'->SNow G N h0 pl0 M0 w0 s' a1 w1->Q .normal a1 w1)->wpOps P ops Q (List.range' i l.length) a w
def Am:cn:=λ_ _ _=>none
section
variable{P:Program}{G:fz}{b:lan}{ops:Array Oper}{l:las}{o:Oper}{s s':St}{h h':AHeap}{v:AV}{A A':Fr}{call:cn}{f:FuncId}{args:laa}{c d:Code}
theorem Df:cW P G Am:=λ_ _ _ _ _ h=>by grind[Am]
theorem aO.mono{Ψ Ψ':AV->AHeap->Prop}(hh:aO P G f args h Ψ)(hi:∀v h',Ψ v h'->Ψ' v h'):aO P G f args h Ψ':=by
 intro pl M w vs hg hr hv;rcases hh pl M w vs hg hr hv with⟨h1,h2⟩|⟨cv,w',v,h',h1,h2,h3⟩
 ·exact .inl ⟨h1,Calls.mono h2 λe w' ⟨cv,v,h',k1,k2,k3⟩=>⟨cv,v,h',k1,hi v h' k2,k3⟩⟩
 ·exact .inr ⟨cv,w',v,h',h1,hi v h' h2,h3⟩
theorem aO.of(hc:cW P G call)(e:call f args h=some (v,h')):aO P G f args h (λv1 h1=>v1=v/\h1=h'):=by
 intro pl M w vs hg hr hv;rcases hc f args h v h' e pl M w vs hg hr hv with⟨h1,h2⟩|⟨cv,w',h1,h2⟩
 ·exact .inl ⟨h1,Calls.mono h2 λe w' ⟨cv,k1,k2⟩=>⟨cv,v,h',k1,⟨rfl,rfl⟩,k2⟩⟩
 ·exact .inr ⟨cv,w',v,h',h1,⟨rfl,rfl⟩,h2⟩
theorem aA.mono{Φ Φ':AExit->St->Prop}(hh:aA P G b c s Φ)(hi:∀e s',Φ e s'->Φ' e s'):aA P G b c s Φ':=λN h0 pl0 M0 w0 a w Q hb hs hQ=>hh N h0 pl0 M0 w0 a w Q hb hs λe s' a1 w1 h1 h2=>hQ e s' a1 w1 (hi e s' h1) h2
theorem aA.skip{Φ:AExit->St->Prop}(h:Φ .normal s):aA P G b .skip s Φ:=λ_ _ _ _ _ a w _ _ hs hQ=>wp_skip (hQ .normal s a w h hs)
theorem aA.label{Φ:AExit->St->Prop}{x}(h:Φ .normal s):aA P G b (.label x) s Φ:=λ_ _ _ _ _ a w _ _ hs hQ=>wp_label (hQ .normal s a w h hs)
theorem aA.exit{Φ:AExit->St->Prop}{id:Nat}(h:Φ (.exit id) s):aA P G b (.exit id) s Φ:=λ_ _ _ _ _ a w _ _ hs hQ=>wp_exit (hQ (.exit id) s a w h hs)
theorem aA.ret{Φ:AExit->St->Prop}(h:Φ .ret s):aA P G b .ret s Φ:=λ_ _ _ _ _ a w _ _ hs hQ=>wp_ret (hQ .ret s a w h hs)
def acQ(P:Program)(G:fz)(b:lan)(d:Code)(Φ:AExit->St->Prop):AExit->St->Prop
 | .normal,s=>aA P G b d s Φ
 |e,s=>Φ e s
theorem aA.seq{Φ:AExit->St->Prop}(h:aA P G b c s (acQ P G b d Φ)):aA P G b (.seq c d) s Φ:=by
 intro N h0 pl0 M0 w0 a w Q hb hs hQ;refine wp_seq (h N h0 pl0 M0 w0 a w _ hb hs λe s' a1 w1 h1 h2=>?_);cases e with
 |normal=>exact h1 N h0 pl0 M0 w0 a1 w1 Q hb h2 hQ
 |exit id=>exact hQ (.exit id) s' a1 w1 h1 h2
 |ret=>exact hQ .ret s' a1 w1 h1 h2
theorem aA.cond{Φ:AExit->St->Prop}{x:Operand}{t:Bool}(hx:(cA G x).run s.tmps=some (.bool t))(h1:t=true->aA P G b c s Φ)(h2:t=false->aA P G b d s Φ):aA P G b (.cond x c d) s Φ:=by
 intro N h0 pl0 M0 w0 a w Q hb hs hQ;obtain⟨pl,M,g1,g2,g3,g4,g5⟩:=hs.ex;have hv:=bK g1 g3 hx;generalize hq:a.eval x=y at hv;cases hv
 cases t
 ·exact wp_cond_false hq (h2 rfl N h0 pl0 M0 w0 a w Q hb hs hQ)
 ·exact wp_cond_true hq (h1 rfl N h0 pl0 M0 w0 a w Q hb hs hQ)
def Xy(id:Nat)(Φ:AExit->St->Prop):AExit->St->Prop
 | .exit k,s=>if k=id then Φ .normal s else Φ (.exit k) s
 |e,s=>Φ e s
theorem aA.block{Φ:AExit->St->Prop}{id:Nat}(h:aA P G b c s (Xy id Φ)):aA P G b (.block id c) s Φ:=by
 intro N h0 pl0 M0 w0 a w Q hb hs hQ;refine wp_block (h N h0 pl0 M0 w0 a w _ hb hs λe s' a1 w1 h1 h2=>?_);cases e with
 |normal=>exact hQ .normal s' a1 w1 h1 h2
 |ret=>exact hQ .ret s' a1 w1 h1 h2
 |exit k=>
  by_cases hk:k=id
  ·simp only[Xy,hk,if_true]at h1;simp only[wJ,Exit.inBlock,hk,if_true];exact hQ .normal s' a1 w1 h1 h2
  ·simp only[Xy,hk,if_false]at h1;simp only[wJ,Exit.inBlock,hk,if_false];exact hQ (.exit k) s' a1 w1 h1 h2
def abQ(n:Nat)(I:Nat->St->Prop)(Φ:AExit->St->Prop):AExit->St->Prop
 | .normal,s=>∃m,m<n/\I m s
 |e,s=>Φ e s
theorem aA.loop{Φ:AExit->St->Prop}(I:Nat->St->Prop)(n:Nat)(h0:I n s)(hI:∀n s,I n s->aA P G b c s (abQ n I Φ)):aA P G b (.loop c) s Φ:=by
 intro N hp0 pl0 M0 w0 a w Q hb hs hQ;have key:∀(n m:Nat)(s:St)(a:Act)(w:World),n<m->I n s->SNow G N hp0 pl0 M0 w0 s a w->Code.rounds P c Q m a w:=by
  intro n;induction n using Nat.strongRecOn with
  | _ n ih=>
   intro m s a w hm hi hs;cases m with
   |zero=>omega
   | succ m=>
    rw[rounds_succ];refine hI n s hi N hp0 pl0 M0 w0 a w _ hb hs λe s' a1 w1 h1 h2=>?_
    cases e with
    |normal=>
     obtain⟨k,hk,hi'⟩:=h1;exact ih k hk m s' a1 w1 (by omega) hi' h2
    |exit id=>exact hQ (.exit id) s' a1 w1 h1 h2
    |ret=>exact hQ .ret s' a1 w1 h1 h2
 exact wp_loop_rounds (n+1) (key n (n+1) s a w (Nat.lt_succ_self n) h0 hs)
theorem aA.scope{Φ:AExit->St->Prop}(h:aA P G b c s Φ):aA P G b (.scope c) s Φ:=by
 intro N h0 pl0 M0 w0 a w Q hb hs hQ;refine wp_scope_straight (h N h0 pl0 M0 w0 a w _ hb hs λe s' a1 w1 h1 h2=>?_);cases e<;>exact hQ _ s' a1 w1 h1 h2
theorem aA.region{Φ:AExit->St->Prop}{id:Nat}(h:cE P G b ops ops.toList s (Φ .normal)):aA P G b (.region id ops false) s Φ:=by
 intro N h0 pl0 M0 w0 a w Q hb hs hQ;refine wp_region ?_;rw[List.range_eq_range'];have hlen:ops.size=ops.toList.length:=by simp
 rw[hlen];exact h 0 N h0 pl0 M0 w0 a w Q hb (λj=>by simp) hs λs' a1 w1 h1 h2=>hQ .normal s' a1 w1 h1 h2
theorem cE.nil{Φ:St->Prop}(h:Φ s):cE P G b ops [] s Φ:=λ_ _ _ _ _ _ a w _ _ _ hs hQ=>hQ s a w h hs
theorem cE.one{Φ:St->Prop}(hc:cW P G call)(e:zG call (bR P G ops o) s some=some s')(h:cE P G b ops l s' Φ):cE P G b ops (o::l) s Φ:=by
 intro i N h0 pl0 M0 w0 a w Q hb hl hs hQ;have ho:ops[i]?=some o:=by simpa using hl 0
 simp only[dw,CL,wpOps,ho];refine MT (K:=wpOps P ops Q (List.range' (i+1) l.length)) hc hs e λs1 a1 w1 h1 h2=>?_
 cases h2
 exact h (i+1) N h0 pl0 M0 w0 a1 w1 Q hb (λj=>by have:=hl (j+1);grind) h1 hQ
theorem cE.val{Φ:St->Prop}(hg:eO s.tmps (eL ops o)=some true)(e:(fc P G o.op).run s.tmps s.heap=some (.val v h'))(hp:jU s.tmps o.dst v=some A')(h:cE P G b ops l ⟨A',h'⟩ Φ):cE P G b ops (o::l) s Φ:=by
 refine cE.one (call:=Am) Df ?_ h;grind[zG,bR,behind,fin]
theorem cE.calls{Φ:St->Prop}{Ψ:AV->AHeap->Prop}(hg:eO s.tmps (eL ops o)=some true)(e:(fc P G o.op).run s.tmps s.heap=some (.call f args))(hf:aO P G f args s.heap Ψ)
  (h:∀v h',Ψ v h'->∃A',jU s.tmps o.dst v=some A'/\cE P G b ops l ⟨A',h'⟩ Φ):cE P G b ops (o::l) s Φ:=by
 intro i N h0 pl0 M0 w0 a w Q hb hl hs hQ;have ho:ops[i]?=some o:=by simpa using hl 0
 obtain⟨pl,M,g1,g2,g3,g4,g5⟩:=hs.ex;simp only[dw,CL,wpOps,ho];rw[fN g3 hg];simp only[if_true];left;obtain⟨vs,q1,q2⟩:=uO (P:=P) (w:=w) g1 g3 e;have key:∀cv w' v h',Ψ v h'->ip pl M s.heap w v h' cv w'->wpOps P ops Q (List.range' (i+1) l.length) (a.put o.dst cv) w':=by
  intro cv w' v h' hΨ ⟨pl',M',k1,k2,k3,k4⟩;obtain⟨A',e2,hh⟩:=h v h' hΨ;obtain⟨p1,p2⟩:=n8 (g3.mono k3.ext k3.mem) k1 (by rw[hs.n];exact hs.small) e2;exact hh (i+1) N h0 pl0 M0 w0 _ w' Q hb (λj=>by have:=hl (j+1);grind)
   ⟨⟨pl',M',g1.mono k3.ext k3.mem,k2,p1,g4.trans k3 g5,b0 g5 k4⟩,by rw[<-hs.n];omega,hs.small⟩ hQ
 unfold Oper.wp;rw[q2];rcases hf pl M w vs g1 g2 q1 with⟨k1,k2⟩|⟨cv,w',v,h',k1,k2,k3⟩
 ·rw[k1];refine Calls.mono k2 λen w'' ⟨cv,v,h',e1,e2,e3⟩=>?_
  grind
 ·rw[k1];exact key cv w' v h' k2 k3
structure SubSt(s' s:St):Prop where
 n:s'.tmps.n=s.tmps.n
 tmps:∀t v,s'.tmps.get t=some v->s.tmps.get t=some v
 hn:s.heap.n<=s'.heap.n
 objs:∀id o,s'.heap.get id=some o->s.heap.get id=some o
theorem SubSt.now{N:Nat}{h0:AHeap}{pl0:Pl}{M0:dN}{w0:World}{a:Act}{w:World}(hS:SubSt s' s)(hs:SNow G N h0 pl0 M0 w0 s a w):SNow G N h0 pl0 M0 w0 s' a w:=by
 obtain⟨⟨pl,M,g1,g2,g3,g4,g5⟩,hn,hsm⟩:=hs;refine⟨⟨pl,M,g1,⟨λid p hp=>by have:=g2.dom id p hp;have:=hS.hn;omega,λid p o hp hg=>g2.obj id p o hp (hS.objs id o hg),g2.blk,g2.inj,g2.imm,g2.sep⟩,⟨by rw[hS.n];exact g3.size,g3.defers,λt v ht=>?_⟩,⟨g4.ext,g4.new,g4.mem,g4.size,g4.kept,g4.blks,λid p hp hg=>?_,g4.stay,g4.memNew,g4.os,g4.tape,g4.out,g4.drawn⟩,b0 g5 hS.hn⟩,by rw[hS.n];omega,hsm⟩
 ·grind[cases SubSt,cases FrRel]
 ·cases hh:s'.heap.get id with
  |none=>rfl
  |some o=>have:=g4.live id p hp hg;grind[cases SubSt]
theorem aO.enter{hp:AHeap}{fn:Func}{Ψ:AV->AHeap->Prop}(pol:Nat)(hf:P.funcs[f]?=some fn)(hN:(fn.name== "runtime.NumGoroutine")=false)(hb:fn.body=some c)(hn:Nat.ble args.length fn.ntmps=true/\Nat.ble fn.ntmps 60000=true)
  (h:aA P G (some hp.n) c ⟨⟨fn.ntmps,ib fn.ntmps args 0 .nil⟩,hp⟩ λe s=>(∀id,e≠.exit id)/\∃v,fw (fh P fn.results.toList s.tmps s.heap)=some v/\Ψ (gJ pol hp.n v s.heap).1 (gJ pol hp.n v s.heap).2):aO P G f args hp Ψ:=by
 intro pl M w vs hg hr hv;simp only[bd,decide_eq_true_eq]at hn;left;simp only[beq_eq_false_iff_ne,ne_eq]at hN;refine⟨by simp_all[callFunc],calls_of_wp hf hb ?_⟩;have hs0:SNow G fn.ntmps hp pl M w ⟨⟨fn.ntmps,ib fn.ntmps args 0 .nil⟩,hp⟩ {tmps:=vs++Array.replicate (fn.ntmps-vs.size) undef,defers:=[]} w:=⟨⟨pl,M,hg,hr,zH hv hn.1 hn.2,dK.refl _ _ _ _,ar _⟩,rfl,hn.2⟩
 refine h fn.ntmps hp pl M w _ w _ (λm hb=>?_) hs0 λe s a1 w1 h1 h2=>?_
 ·cases hb
  exact⟨rfl,λid p hq=>hr.dom id p hq⟩
 ·obtain⟨hne,v,hres,hΨ⟩:=h1;obtain⟨pl1,M1,g1,g2,g3,g4,g5⟩:=h2.ex;obtain⟨cv,k1,k2⟩:=tv g2 g3 hres;obtain⟨pl2,M2,q1,q2,q3,q4⟩:=vZ pol hr g2 k2 g4 g5 (rfl:gJ pol hp.n v s.heap=((gJ pol hp.n v s.heap).1,(gJ pol hp.n v s.heap).2));have fin:a1.defers=[]/\∃u,(results fn a1.tmps).run P w1=.ok u w1/\∃cv v h',Ending.returned u=.returned cv/\Ψ v h'/\ip pl M hp w v h' cv w1:=⟨g3.defers,cv,k1,cv,_,_,rfl,hΨ,pl2,M2,q1,q2,q3,q4⟩
  cases e with
  |exit id=>simp_all
  |normal=>exact fin
  |ret=>exact fin
def jK(G:fz):Prop:=∀g x,G g=some x->x.top=0
theorem rX{pl:Pl}{M:dN}{n:Nat}{g:Nat->lav}{w:World}(hr:RepF pl M n g w):cS (λ_=>none) M AHeap.none w:=⟨λ_ _ h=>by simp_all,λ_ _ _ h=>by simp_all,λ_ _ h=>by simp_all,λ_ _ _ _ h=>by simp_all,hr.imm,λ_ _ h=>by simp_all⟩
theorem VRel.none{pl pl':Pl}{M:dN}{x:Value}(h:VRel pl M v x)(ht:v.top=0):VRel pl' M v x:=h.agree (n:=0) (by omega) (λ_ _ h _=>absurd h (qu _)) (λ_ _ h=>h)
theorem VRels.none{pl pl':Pl}{M:dN}{xs:laa}{ys:Array Value}(h:VRels pl M xs ys)(ht:az xs=0):VRels pl' M xs ys:=⟨h.len,λj y hj=>(h.at_ j y hj).none (by have:=dS.1 (uj ht) y (bC hj);omega)⟩
theorem qc.none{pl pl':Pl}{M:dN}(hG:jK G)(h:qc G pl M):qc G pl' M:=λg x hg=>⟨(h g x hg).1.none (by have:=hG g x hg;simp[AV.top,az,this];rfl),(h g x hg).2⟩
theorem wi{pl pl':Pl}{M M':dN}{n m:Nat}{g:Nat->lav}{w w':World}{h1:AHeap}(hr:RepF pl M n g w)(hr':cS pl' M' h1 w')(hs:dK AHeap.none (λ_=>none) M w h1 pl' M' w'):
  RepF pl M' n g w'/\StepF m g pl M w g pl M' w':=by
 have kept:∀b,b<w.heap.size->w'.heap[b]?=w.heap[b]?:=λb hb=>hs.kept b hb (λid p h=>by simp_all)
 refine⟨⟨hr.dom,λid p o hp hg=>?_,λid p hp=>CI (hr.blk id p hp) hs.size,hr.inj,hr'.imm,λid p hp=>?_⟩,⟨nS.refl _,λ_ _ h=>h,hs.mem,hs.size,λb hb _=>kept b hb,λid p h=>.inl ⟨p,h,rfl⟩,λ_ _ _ h=>h,λ_ _ h _=>h,hs.memNew,hs.os,hs.tape,hs.out,hs.drawn⟩⟩
 ·rw[kept _ (hr.blk id p hp)];exact(hr.obj id p o hp hg).mono (nS.refl _) hs.mem
 ·cases hM:M' p.blk with
  |none=>rfl
  |some c=>
   rcases hs.memNew _ c hM with k|k
   all_goals grind[cases RepF]
theorem aO.lift{Ψ:AV->AHeap->Prop}(hG:jK G)(ht:az args=0)(h0:aO P G f args AHeap.none Ψ)(hΨ:∀v h',Ψ v h'->v.top=0)(h:AHeap):
  aO P G f args h (λv h'=>(∃h1,Ψ v h1)/\h'=h):=by
 intro pl M w vs hg hr hv;have fin:∀v h1 cv w',Ψ v h1->ip (λ_=>none) M AHeap.none w v h1 cv w'->ip pl M h w v h cv w':=by
  intro v h1 cv w' hp ⟨pl',M',k1,k2,k3,k4⟩;obtain⟨q1,q2⟩:=wi (m:=h.n) hr k2 k3;exact⟨pl,M',k1.none (hΨ v h1 hp),q1,q2,ar _⟩
 rcases h0 (λ_=>none) M w vs (hg.none hG) (rX hr) (hv.none ht)with⟨h1,h2⟩|⟨cv,w',v,h',h1,h2,h3⟩
 ·exact .inl ⟨h1,Calls.mono h2 λe w' ⟨cv,v,h',k1,k2,k3⟩=>⟨cv,v,h,k1,⟨⟨h',k2⟩,rfl⟩,fin v h' cv w' k2 k3⟩⟩
 ·exact .inr ⟨cv,w',v,h,h1,⟨⟨h',h2⟩,rfl⟩,fin v h' cv w' h2 h3⟩
def aP(P:Program)(G:fz)(f:FuncId)(args:laa)(v:AV):Prop:=∀h,aO P G f args h (λv1 h1=>v1=v/\h1=h)
theorem lg(hG:jK G)(ht:az args=0)(hv:v.top=0)(h0:aO P G f args AHeap.none (λv1 _=>v1=v)):aP P G f args v:=λh=>(aO.lift hG ht h0 (λv1 _ e=>by simp_all) h).mono λv1 h1 ⟨⟨_,e1⟩,e2⟩=>⟨e1,e2⟩
end
def s9(P:Program)(G:fz)(ops:Array Oper):Nat->las->Fr->AHeap->List Rec->(Fr->AHeap->Prop)->Prop
 |_,[],F,h,_,Φ=>h.n<=1000000/\Φ F h
 |k,o::rest,F,h,rs,Φ=>∃v h1 r F',DSpec P G ops o (o.looksAt ops) F h v h1 r/\lm (fV (eb ops.toList 0 []) k) r rs k=true/\jU F o.dst v=some F'/\s9 P G ops (k+1) rest F' h1 (r::rs) Φ
section
variable{P:Program}{G:fz}{b:lan}{ops:Array Oper}{l:las}{o:Oper}{s s':St}{h h':AHeap}{v:AV}{A A':Fr}{call:cn}{f:FuncId}{args:laa}{c d:Code}
theorem Ir:∀(l:las)(k:Nat)(hs0:Nat->AHeap)(Fs0:Nat->Fr)(vs0:Nat->AV)(rc0:Nat->Rec)(Φ:Fr->AHeap->Prop),s9 P G ops k l (Fs0 k) (hs0 k) (gK rc0 k) Φ->
  ∃(hs:Nat->AHeap)(Fs:Nat->Fr)(vs:Nat->AV)(rc:Nat->Rec),(∀i,i<=k->hs i=hs0 i/\Fs i=Fs0 i)/\(∀i,i<k->vs i=vs0 i/\rc i=rc0 i)/\
   (∀j o,l[j]?=some o->DSpec P G ops o (o.looksAt ops) (Fs (k+j)) (hs (k+j)) (vs (k+j)) (hs (k+j+1)) (rc (k+j)))/\
   (∀j o,l[j]?=some o->jU (Fs (k+j)) o.dst (vs (k+j))=some (Fs (k+j+1)))/\
   (∀j o,l[j]?=some o->∀i,i<k+j->OU (rc i) (rc (k+j))->Nat.testBit (fV (eb ops.toList 0 []) (k+j)) i=true)/\
   (hs (k+l.length)).n<=1000000/\Φ (Fs (k+l.length)) (hs (k+l.length))
 |[],k,hs0,Fs0,vs0,rc0,Φ,e=>by
  obtain⟨e1,e2⟩:=e;exact⟨hs0,Fs0,vs0,rc0,λ_ _=>⟨rfl,rfl⟩,λ_ _=>⟨rfl,rfl⟩,λj d h=>by simp_all,λj d h=>by simp_all,λj d h=>by simp_all,by omega,by omega⟩
 | o::r,k,hs0,Fs0,vs0,rc0,Φ,e=>by
  obtain⟨v,h',rec,F',ho,hcl,hp,e⟩:=e;let hs1:Nat->AHeap:=λi=>if i=k+1 then h' else hs0 i
  let Fs1:Nat->Fr:=λi=>if i=k+1 then F' else Fs0 i
  let vs1:Nat->AV:=λi=>if i=k then v else vs0 i
  let rc1:Nat->Rec:=λi=>if i=k then rec else rc0 i
  have er:rec::gK rc0 k=gK rc1 (k+1):=by
   simp only[gK];grind[pd]
  have e2:s9 P G ops (k+1) r (Fs1 (k+1)) (hs1 (k+1)) (gK rc1 (k+1)) Φ:=by grind
  obtain⟨hs,Fs,vs,rc,a1,a2,a3,a4,a5,a6,a7⟩:=Ir r (k+1) hs1 Fs1 vs1 rc1 Φ e2;have hk:=a1 k (by omega);have hk1:=a1 (k+1) (by omega);have hvk:=a2 k (by omega);simp only[hs1,Fs1,show ¬k=k+1 by omega,if_false,if_true]at hk hk1;simp only[vs1,rc1,if_true]at hvk;refine⟨hs,Fs,vs,rc,λi hi=>?_,λi hi=>?_,λj d' hj=>?_,λj d' hj=>?_,λj d' hj i hi hc=>?_,?_,?_⟩
  ·grind
  ·grind
  ·grind
  ·grind
  ·match j,hj with
   |0,hj=>
    simp at hj;subst hj;simp only[qK]at hi hc ⊢;have hri:=(a2 i (by omega)).2;simp only[rc1,show ¬i=k by omega,if_false]at hri;rw[hri,hvk.2]at hc;have hcl':lm (fV (eb ops.toList 0 []) k) rec (gK rc0 k) (gK rc0 k).length=true:=by grind[nY]
    have:=th hcl' (k-1-i) (rc0 i) (ta rc0 k i hi) hc;grind[nY]
   |j+1,hj=>grind
  all_goals grind
noncomputable def Fw(P:Program)(G:fz)(ops:Array Oper):Bool:=Bl ops.toList&&Region.noSelect ops&&(nq P G ops (eb ops.toList 0 []) ops.toList 0).isSome
theorem aA.draw{Φ:AExit->St->Prop}{id:Nat}(hm:P.follows .mixedOrders=true)(hfit:Fw P G ops=true)(h:s9 P G ops 0 ops.toList s.tmps s.heap [] λF hp=>Φ .normal ⟨F,hp⟩):aA P G b (.region id ops true) s Φ:=by
 intro N h0 pl0 M0 w0 a w Q hb hsn hQ;unfold Fw at hfit;simp only[ba]at hfit;obtain⟨⟨hck1,hck2⟩,hck3⟩:=hfit;obtain⟨ds,hrd⟩:=Option.isSome_iff_exists.1 hck3;obtain⟨⟨pl,M,g1,g2,g3,g4,g5⟩,hn,hsm⟩:=hsn;obtain⟨hs,Fs,vs,rc,a1,_,D1,D2,D3,D4,D5⟩:=Ir ops.toList 0 (λ_=>s.heap) (λ_=>s.tmps) (λ_=>gh) (λ_=>⟨⟨false,[],0,0⟩,⟨false,[],0,0⟩⟩) _ h;obtain⟨e1,e2⟩:=a1 0 (ar _);obtain⟨hlen,hget⟩:=pe hrd;have hl:ops.toList.length=ops.size:=by simp
 simp only[fx]at D1 D2 D3;rw[fx,hl]at D4 D5;have R:Reg P G Am ops N hs Fs vs rc:=by
  refine⟨hsm,by simp_all,λt u h=>?_,D4,λj o ho=>?_,λj o ho=>?_,λj o ho i hi hcl=>?_,λj o ho=>?_,λj o ho=>?_,λi j oi oj t hi hj=>wP hck1 i j oi oj t (by simp_all) (by simp_all)⟩;all_goals grind[cases FrRel]
 refine wp_region_any hm (T2 R (h0:=s.heap) (pl0:=pl) (M0:=M) (w0:=w) g1 g2.dom (by simp_all) (λa1 w1 h1=>?_) ops.size _ a _ (by simp) ?_ ?_)
 ·obtain⟨pl1,M1,k1,k2,k3⟩:=h1;refine hQ .normal _ a1 w1 D5 ⟨⟨pl1,M1,g1.mono k2.ext k2.mem,k1,k3,g4.trans k2 g5,?_⟩,(R.frame ops.size (ar _)).1,hsm⟩;have:=R.mono (b6 ops.size) (ar _);grind
 ·simp_all
 ·have hno:∀j,¬(Array.replicate ops.size false).getD j false=true:=by simp_all[Array.getD]
  refine⟨λi hi=>absurd hi (hno i),⟨pl,M,s.heap.get,?_,?_,λid m o hm ha _ hg=>?_,λj hj _ id h1 h2=>?_,λj o t _ h=>absurd h (hno j),λt u _ hu=>?_⟩,by rw[g3.size];omega,g3.defers⟩
  ·refine⟨λid p hp=>?_,g2.obj,g2.blk,g2.inj,g2.imm,g2.sep⟩;have h1:=g2.dom id p hp;have:=R.mono (b6 ops.size) (ar _);grind
  ·exact⟨nS.refl _,λ_ _ h=>h,λ_ _ h=>h,ar _,λ_ _ _=>rfl,λid p h=>.inl ⟨p,h,rfl⟩,λ_ _ _ h=>h,λ_ _ h _=>h,λ_ _ h=>.inl h,rfl,rfl,rfl,om _⟩
  ·have:=R.back (j:=0) m (b6 _) hm (λi _ h2 hw=>hno i (ha i h2 hw)) hg;simp_all
  ·cases hp:pl id with
   |none=>rfl
   |some p=>
    have h3:=g2.dom id p hp;have:=R.mono (b6 j) (by omega);grind
  grind[cases FrRel]
theorem DSpec.of(hc:cW P G call){F:Fr}{h1:AHeap}{r:Rec}(e:Fi call F h ⟨bR P G ops o,o.looksAt ops,dE o.op,da o.op,0⟩=some (v,h1,r)):DSpec P G ops o (o.looksAt ops) F h v h1 r:=NR hc rfl rfl e
theorem DSpec.pure(hG:jK G){F:Fr}(hg:eO ⟨F.n,b7 F (o.looksAt ops) .nil⟩ (eL ops o)=some true)(e:(fc P G o.op).run ⟨F.n,b7 F (o.looksAt ops) .nil⟩ h=some (.call f args))
  (ht:az args=0)(hv:v.top=0)(hf:aP P G f args v):DSpec P G ops o (o.looksAt ops) F h v h ⟨⟨false,[],0,0⟩,⟨false,[],0,0⟩⟩:=by
 refine⟨ar _,λ_ _ _ h=>h,λid h1 h2=>by omega,?_⟩;intro nk n0 g pl M a w K Q hn0 hnk hbig hr hvis hU hG' hs hdf hF hK;have hf0:FrRel pl M ⟨F.n,b7 F (o.looksAt ops) .nil⟩ a:=iw hs hdf hF;rw[fN hf0 hg];simp only[if_true];left;have hG2:qc G pl M:=hG'.none hG;obtain⟨vs,q1,q2⟩:=uO (P:=P) (w:=w) hG2 hf0 e;have fin:∀h1 cv w',ip (λ_=>none) M AHeap.none w v h1 cv w'->K (a.put o.dst cv) w':=by
  intro h1 cv w' ⟨pl',M',k1,k2,k3,k4⟩;obtain⟨z1,z2⟩:=wi (m:=n0) hr k2 k3;exact hK cv w' pl M' g z1 z2 (k1.none hv) (nS.refl _) (λid h _=>h) (λ_ _=>rfl) (λid o' hh=>absurd hh (sZ (ids:=[])))
 unfold Oper.wp;rw[q2];rcases hf AHeap.none (λ_=>none) M w vs (hG2.none hG) (rX hr) (q1.none ht)with⟨k1,k2⟩|⟨cv,w',v',h',k1,⟨rfl,rfl⟩,k3⟩
 ·rw[k1];refine Calls.mono k2 λen w'' ⟨cv,v',h',e1,e2,e3⟩=>?_
  grind
 ·rw[k1];exact fin _ cv w' k3
end
noncomputable section
def EO:List (Nat×AV)->Tr AV->Tr AV
 |[],t=>t
 |p::r,t=>EO r (match Nat.blt p.1 60000 with|true=>t.set 16 p.1 p.2|false=>t)
def eh(n:Nat)(L:List (Nat×AV)):Fr:=⟨n,EO L .nil⟩
def E4:lai->Nat->Tr AObj->Tr AObj
 |[],_,t=>t
 |o::r,i,t=>E4 r (i+1) (match Nat.blt i 1000000 with|true=>t.set 20 i o|false=>t)
def aw(L:lai):AHeap:=⟨L.length,E4 L 0 .nil⟩
def pF(A:Fr):laf->lbh
 |[]=>some []
 |t::r=>match A.get t with
  |some v=>match pF A r with|some vs=>some (v::vs)|none=>none
  |none=>none
section
variable{P:Program}{G:fz}{b:lan}{ops:Array Oper}{l:las}{o:Oper}{s s':St}{h h':AHeap}{v:AV}{A A':Fr}{call:cn}{f:FuncId}{args:laa}{c d:Code}
theorem Aw:∀{L:List (Nat×AV)}{t:Tr AV}{x:Nat}{v:AV},(EO L t).get x=some v->(x,v)∈L\/t.get x=some v
 |[],t,x,v,h=>.inr h
 | p::r,t,x,v,h=>by
  simp only[EO]at h;rcases Aw h with h1|h1
  ·exact .inl (di _ h1)
  ·rw[dG]at h1;by_cases hlt:p.1<60000
   ·simp only[hlt,decide_true]at h1;rcases jW 16 t p.1 p.2 x v (Nat.lt_trans (Nat.succ_lt_succ hlt) (by decide)) h1 with⟨rfl,rfl⟩|⟨_,h2⟩
    ·exact .inl (by simp)
    ·exact .inr h2
   ·simp only[hlt,decide_false]at h1;exact .inr h1
theorem uT{n:Nat}{L:List (Nat×AV)}{x:Nat}{v:AV}(h:(eh n L).get x=some v):(x,v)∈L:=by
 rcases Aw (t:=.nil) h with h1|h1
 ·exact h1
 ·rw[f8]at h1;cases h1
theorem Ah:∀{L:lai}{i:Nat}{t:Tr AObj}{x:Nat}{o:AObj},(E4 L i t).get x=some o->(i<=x/\L[x-i]?=some o)\/t.get x=some o
 |[],i,t,x,o,h=>.inr h
 | q::r,i,t,x,o,h=>by
  simp only[E4]at h;rcases Ah h with⟨h1,h2⟩|h1
  ·exact .inl ⟨by omega,by rw[show x-i=(x-(i+1))+1 by omega];simpa using h2⟩
  ·rw[dG]at h1;by_cases hlt:i<1000000
   ·simp only[hlt,decide_true]at h1;rcases jW 20 t i q x o (Nat.lt_trans (Nat.succ_lt_succ hlt) (by decide)) h1 with⟨rfl,rfl⟩|⟨_,h2⟩
    ·exact .inl ⟨ar _,by simp⟩
    ·exact .inr h2
   ·simp only[hlt,decide_false]at h1;exact .inr h1
theorem oQ{L:lai}{x:Nat}{o:AObj}(h:(aw L).get x=some o):L[x]?=some o:=by
 obtain⟨_,_,h3⟩:=AHeap.get_some.1 h;rcases Ah (t:=.nil) h3 with⟨_,h1⟩|h1
 ·simpa using h1
 ·rw[f8]at h1;cases h1
theorem BV:∀{ts:laf}{vs:laa},pF A ts=some vs->∀t v,(t,v)∈ts.zip vs->A.get t=some v
 |[],vs,_,t,v,h=>by simp at h
 | x::r,vs,e,t,v,h=>by
  simp only[pF]at e;cases hx:A.get x with
  |none=>simp[hx]at e
  | some u=>
   cases hr:pF A r with
   |none=>simp[hx,hr]at e
   |some us=>
    simp[hx,hr]at e;subst e;simp only[List.zip_cons_cons,dO,sr]at h;rcases h with⟨rfl,rfl⟩|h
    ·exact hx
    ·exact BV hr t v h
end
end
section
variable{H:Type}
def cF(w:World):dN:=λb=>match w.heap[b]? with|some (.cells c _ _)=>some c|_=>none
theorem KU{w:World}{b:Nat}{c:Array Value}(h:cF w b=some c):∃t fr,w.heap[b]?=some (.cells c t fr):=by
 unfold cF at h;split at h
 ·rename_i c' t fr q;cases h
  exact⟨t,fr,q⟩
 ·cases h
theorem Ou(w:World):cS (λ_=>none) (cF w) AHeap.none w:=⟨λ_ _ h=>by simp at h,λ_ _ _ h=>by simp at h,λ_ _ h=>by simp at h,λ_ _ _ _ h=>by simp at h,λ_ _ h=>KU h,λ_ _ h=>by simp at h⟩
def wO(ag:Bool):laa->lae
 | xs=>match ag with
  |true=>some (.agg xs)
  |false=>match xs with
   |[x]=>some x
   |_=>none
def xQ(f:DataW H->lbh)(ag:Bool)(sz:Nat):List (DataW H)->lbh
 |[]=>some []
 | d::r=>match f d with
  |some xs=>match Nat.beq xs.length sz,wO ag xs,xQ f ag sz r with
   |true,some x,some ys=>some (x::ys)
   |_,_,_=>none
  |none=>none
def mJ(P:Program)(f:TypeId->DataW H->lbh):lbc->List (DataW H)->Nat->lbh
 |[],[],_=>some []
 | x::fs,d::ds,off=>match f x.type d with
  |some xs=>match Nat.beq x.offset off&&Nat.beq xs.length (P.cellsOf x.type),mJ P f fs ds (off+P.cellsOf x.type)with
   |true,some ys=>some (xs++ys)
   |_,_=>none
  |none=>none
 |_,_,_=>none
def sb(f:DataW H->lbh)(sz:Nat):List (DataW H)->lbh
 |[]=>some []
 | d::r=>match f d with
  |some xs=>match Nat.beq xs.length sz,sb f sz r with
   |true,some ys=>some (xs++ys)
   |_,_=>none
  |none=>none
def Bq(n:Nat):lbh->lbh
 |some xs=>match Nat.beq xs.length n with|true=>some xs|false=>none
 |none=>none
def FG(P:Program):Nat->TypeId->DataW H->lbh
 |0,_,_=>none
 | k+1,t,d=>
  match P.underlying t,d with
  |some .bool,.lit (.bool b)=>some [.bool b]
  |some (.int _),.lit (.int k n)=>some [.int k n]
  |some .string,.lit (.string s)=>some [.str s]
  |some (.slice _),.nil=>some [.nils]
  |some (.slice e),.slice es _=>match dW P e,xQ (FG P k e) ((dW P e).getD false) (P.cellsOf e) es,Nat.blt 0 (P.cellsOf e)with
   |some _,some xs,true=>some [.ps xs false]
   |_,_,_=>none
  |some (.struct fs),.agg ds=>Bq (P.cellsOf t) (mJ P (FG P k) fs.toList ds 0)
  |some (.array _ e),.agg ds=>Bq (P.cellsOf t) (sb (FG P k e) (P.cellsOf e) ds)
  |_,_=>none
variable{enc:TypeId×Value->H}{P:Program}{w:World}{base:Nat}{spare:Nat->Bool}{held:Bool}
theorem VRels.appendL{pl:Pl}{M:dN}{xs ys:laa}{a b:lao}(h:VRels pl M xs a.toArray)(k:VRels pl M ys b.toArray):VRels pl M (xs++ys) (a++b).toArray:=by
 have h1:=h.len;have k1:=k.len;simp only[CN]at h1 k1;refine⟨by simp[h1,k1],λj y hj=>?_⟩;by_cases hlt:j<xs.length
 ·rw[sC hlt]at hj;have:=h.at_ j y hj;rw[iZ]at this ⊢;simp only[ou]at this ⊢;rw[sC (by omega)];exact this
 ·rw[ot (by omega)]at hj;have:=k.at_ _ y hj;rw[iZ]at this ⊢;simp only[ou]at this ⊢;rw[ot (by omega),<-h1];exact this
theorem EY{a:Addr}{n:Nat}{cs:lao}(h:w.cells? base a n=some cs):cs.length=n/\∀i,i<n->w.cell? (a.add i)=cs[i]?:=by
 unfold World.cells? at h;split at h
 ·have key:∀(l:laf)(cs:lao),(l.mapM λi=>w.cell? (a.add i))=some cs->cs.length=l.length/\∀(i j:Nat),l[i]?=some j->w.cell? (a.add j)=cs[i]?:=by
   intro l;induction l with
   |nil=>intro cs h;simp at h;subst h;exact⟨rfl,λi j h=>by simp at h⟩
   |cons x r ih=>
    intro cs h;simp only[List.mapM_cons,Option.bind_eq_bind,Option.bind_eq_some_iff,Option.pure_def,zc]at h;obtain⟨v,h1,vs,h2,rfl⟩:=h;obtain⟨k1,k2⟩:=ih vs h2;refine⟨by simp[k1],λi j hij=>?_⟩;cases i with
    |zero=>simp at hij;subst hij;simpa using h1
    |succ i=>simpa using k2 i j (by simpa using hij)
  obtain⟨k1,k2⟩:=key _ _ h;exact⟨by simpa using k1,λi hi=>k2 i i (by simp[hi])⟩
 ·cases h
theorem sk{a:Addr}{v:Value}(h:w.cell? a=some v):a.spot=none/\∃c,cF w a.block=some c/\c[a.off]?=some v:=by
 unfold World.cell? at h;unfold cF;split at h
 ·rename_i c t fr q;split at h
  ·cases h
  ·rename_i hs;exact⟨by simpa using hs,c,by rw[q],h⟩
 ·cases h
theorem xR{n:Nat}{o:lbh}{xs:laa}(h:Bq n o=some xs):o=some xs/\xs.length=n:=by
 cases o with
 |none=>simp[Bq]at h
 |some ys=>
  simp only[Bq,aD]at h;by_cases q:ys.length=n
  ·simp[q]at h;subst h;exact⟨rfl,q⟩
  ·simp[q]at h
theorem vd{ag:Bool}{xs:laa}{x:AV}(h:wO ag xs=some x)(hs:∀y,y∈xs->dq y=true):x.cells=xs/\Sc x:=by
 unfold wO at h;cases ag with
 |true=>
  simp at h;subst h;exact⟨rfl,hs⟩
 | false=>
  simp only[]at h;split at h
  ·cases h
   have h1:=hs x (by simp);have e:x.cells=[x]:=by cases x<;>simp_all[dq,AV.cells]
   exact⟨e,λz hz=>by rw[e]at hz;simp at hz;subst hz;exact h1⟩
  ·cases h
theorem vH{f:TypeId->DataW H->lbh}{tr:TypeId->lao->Option (DataW H×laz)}{pl:Pl}{M:dN}{cs:lao}
  (ih:∀t cs d p xs,f t d=some xs->tr t cs=some (d,p)->VRels pl M xs cs.toArray/\∀x,x∈xs->dq x=true):
  ∀(fs:lbc)(ds:List (DataW H×laz))(off:Nat)(xs:laa),mJ P f fs (ds.map (·.1)) off=some xs->(∀(i:Nat)(x:Field),fs[i]?=some x->tr x.type ((cs.drop x.offset).take (P.cellsOf x.type))=ds[i]?)->off+xs.length=cs.length->
   VRels pl M xs (cs.drop off).toArray/\∀x,x∈xs->dq x=true
 |[],[],off,xs,e,_,hl=>by
  simp[mJ]at e;subst e;simp only[hJ,qK]at hl;refine⟨⟨by simp;omega,λj y h=>by simp at h⟩,λx h=>by simp at h⟩
 |[],_::_,_,_,e,_,_=>by simp[mJ]at e
 |_::_,[],_,_,e,_,_=>by simp[mJ]at e
 | x::fs,d::ds,off,xs,e,h,hl=>by
  simp only[eT,mJ]at e;cases hf:f x.type d.1 with
  |none=>rw[hf]at e;simp at e
  | some ys=>
   rw[hf]at e;simp only[]at e;cases hr:mJ P f fs (ds.map (·.1)) (off+P.cellsOf x.type)with
   |none=>rw[hr]at e;simp at e
   | some zs=>
    rw[hr]at e;simp only[aD]at e;by_cases q:x.offset=off/\ys.length=P.cellsOf x.type
    ·obtain⟨q1,q2⟩:=q;simp[q1,q2]at e;subst e;simp only[eA]at hl;have h0:=h 0 x rfl;simp only[CH]at h0;obtain⟨k1,k2⟩:=ih _ _ d.1 d.2 ys hf h0;obtain⟨k3,k4⟩:=vH ih fs ds (off+P.cellsOf x.type) zs hr (λi y hy=>by simpa using h (i+1) y (by simpa using hy)) (by omega);rw[q1]at k1;have e2:cs.drop off=(cs.drop off).take (P.cellsOf x.type)++cs.drop (off+P.cellsOf x.type):=by rw[<-zb,LH]
     rw[e2];exact⟨k1.appendL k3,λy hy=>(ie.1 hy).elim (k2 y) (k4 y)⟩
    ·exfalso;rcases Classical.not_and_iff_not_or_not.1 q with q|q<;>simp[q]at e
theorem yq{f:DataW H->lbh}{tr:lao->Option (DataW H×laz)}{sz:Nat}{pl:Pl}{M:dN}{cs:lao}
  (ih:∀cs d p xs,f d=some xs->tr cs=some (d,p)->VRels pl M xs cs.toArray/\∀x,x∈xs->dq x=true):
  ∀(ds:List (DataW H×laz))(n:Nat)(xs:laa),sb f sz (ds.map (·.1))=some xs->(∀i,i<ds.length->tr ((cs.drop ((n+i)*sz)).take sz)=ds[i]?)->n*sz+xs.length=cs.length->
   VRels pl M xs (cs.drop (n*sz)).toArray/\∀x,x∈xs->dq x=true
 |[],n,xs,e,_,hl=>by
  simp[sb]at e;subst e;simp only[hJ,qK]at hl;refine⟨⟨by simp;omega,λj y h=>by simp at h⟩,λx h=>by simp at h⟩
 | d::ds,n,xs,e,h,hl=>by
  simp only[eT,sb]at e;cases hf:f d.1 with
  |none=>rw[hf]at e;simp at e
  | some ys=>
   rw[hf]at e;simp only[]at e;cases hr:sb f sz (ds.map (·.1))with
   |none=>rw[hr]at e;simp at e
   | some zs=>
    rw[hr]at e;simp only[aD]at e;by_cases q2:ys.length=sz
    ·simp[q2]at e;subst e;simp only[eA]at hl;have h0:=h 0 (by simp);simp only[CH,qK]at h0;obtain⟨k1,k2⟩:=ih _ d.1 d.2 ys hf h0;obtain⟨k3,k4⟩:=yq ih ds (n+1) zs hr (λi hi=>by have:=h (i+1) (by simpa using hi);rw[show n+(i+1)=n+1+i by omega]at this;simpa using this) (by rw[qE];omega);have e2:cs.drop (n*sz)=(cs.drop (n*sz)).take sz++cs.drop ((n+1)*sz):=by rw[qE,<-zb,LH]
     rw[e2];exact⟨k1.appendL k3,λy hy=>(ie.1 hy).elim (k2 y) (k4 y)⟩
    ·simp[q2]at e
theorem BP{f:DataW H->lbh}{ag:Bool}{sz:Nat}:∀(ds:List (DataW H))(xs:laa),xQ f ag sz ds=some xs->xs.length=ds.length/\∀(i:Nat)(x:AV),xs[i]?=some x->∃d ys,ds[i]?=some d/\f d=some ys/\ys.length=sz/\wO ag ys=some x
 |[],xs,e=>by simp[xQ]at e;subst e;exact⟨rfl,λi x h=>by simp at h⟩
 | d::r,xs,e=>by
  simp only[xQ]at e;cases hf:f d with
  |none=>rw[hf]at e;simp at e
  | some ys=>
   rw[hf]at e;simp only[aD]at e;cases he:wO ag ys with
   |none=>rw[he]at e;simp at e
   | some x=>
    cases hr:xQ f ag sz r with
    |none=>rw[he,hr]at e;simp at e
    | some zs=>
     rw[he,hr]at e;by_cases q:ys.length=sz
     ·simp[q]at e;subst e;obtain⟨k1,k2⟩:=BP r zs hr;refine⟨by simp[k1],λi y hy=>?_⟩;cases i with
      |zero=>simp at hy;subst hy;exact⟨d,ys,rfl,hf,q,he⟩
      |succ i=>simpa using k2 i y (by simpa using hy)
     ·simp[q]at e
theorem ub:∀(k fuel:Nat)(t:TypeId)(cs:lao)(d:DataW H)(p:laz)(xs:laa),FG P k t d=some xs->DataW.trod enc P w base spare held fuel t cs=some (d,p)->
  VRels (λ_=>none) (cF w) xs cs.toArray/\∀x,x∈xs->dq x=true
 |0,_,_,_,_,_,_,e,_=>by simp[FG]at e
 | k+1,fuel,t,cs,d,p,xs,e,h=>by
  have one:∀{x:AV}{v:Value},VRel (λ_=>none) (cF w) x v->dq x=true->VRels (λ_=>none) (cF w) [x] [v].toArray/\∀y,y∈[x]->dq y=true:=by
   intro x v h1 h2;refine⟨⟨rfl,λj y hj=>?_⟩,λy hy=>by simp at hy;subst hy;exact h2⟩;cases j with
   |zero=>simp at hj;subst hj;simpa[Array.getD]using h1
   |succ j=>simp at hj
  unfold FG at e;split at e
  ·rename_i b ht;obtain⟨b',rfl,h1⟩:=DataW.trod_bool ht h;simp at h1 e;obtain⟨rfl,_⟩:=h1;subst e;exact one (.bool _) rfl
  ·rename_i k' k2 n ht;obtain⟨n',rfl,h1,_⟩:=DataW.trod_int ht h;simp at h1 e;obtain⟨⟨rfl,rfl⟩,_⟩:=h1;subst e;exact one (.int _ _) rfl
  ·rename_i s ht;obtain⟨s',rfl,h1,_⟩:=DataW.trod_string ht h;simp at h1 e;obtain⟨rfl,_⟩:=h1;subst e;exact one (.str _) rfl
  ·rename_i e' ht;simp at e;subst e;rcases DataW.trod_slice ht h with⟨rfl,_⟩|⟨a,len,cap,elems,rest,n,_,_,h1,_⟩
   ·exact one .nils rfl
   ·simp at h1
  ·rename_i e' es sp ht;rcases DataW.trod_slice ht h with⟨_,h1⟩|⟨a,len,cap,elems,rest,n,rfl,rfl,h1,h2,h3,h4,h5,h6,_,_⟩
   ·simp at h1
   ·simp only[sr,DataW.slice.injEq]at h1;obtain⟨⟨rfl,rfl⟩,_⟩:=h1;split at e
    ·rename_i ag ys hag hl hsz;simp at e;subst e;rw[dG]at hsz;simp only[decide_eq_true_eq]at hsz;obtain⟨q1,q2⟩:=BP _ _ hl;have q1:ys.length=len:=by simpa[h5]using q1
     have el:∀(i:Nat)(x:AV),ys[i]?=some x->∃cs:lao,cs.length=P.cellsOf e'/\(∀j,j<P.cellsOf e'->w.cell? ((a.add (i*P.cellsOf e')).add j)=cs[j]?)/\VRels (λ_=>none) (cF w) x.cells cs.toArray/\x.cells.length=P.cellsOf e'/\Sc x:=by
      intro i x hx;have hi:i<len:=by rw[<-q1];exact(fP.1 hx).1
      obtain⟨d,zs,k1,k2,k3,k4⟩:=q2 i x hx;have k5:=h6 i hi;rw[qC]at k1;cases hel:elems[i]? with
      |none=>rw[hel]at k1;simp at k1
      |some y=>
       rw[hel]at k1 k5;simp at k1;subst k1;simp only[Option.bind_eq_some_iff]at k5;obtain⟨cs,c1,c2⟩:=k5;obtain⟨z1,z2⟩:=EY c1;obtain⟨r1,r2⟩:=ub k n e' cs y.1 y.2 zs k2 c2;obtain⟨r3,r4⟩:=vd k4 r2;exact⟨cs,z1,z2,by rw[r3];exact r1,by rw[r3];exact k3,r4⟩
     have addadd:∀i j:Nat,a.spot=none->(a.add i).add j=⟨a.block,a.off+i+j,none⟩:=by
      intro i j hs;obtain⟨blk,off,spot⟩:=a;simp at hs;subst hs;by_cases hi:i=0<;>by_cases hj:j=0<;>simp[Addr.add,hi,hj]
     have spot:ys≠[]->a.spot=none:=by
      intro hne;obtain⟨x,hx⟩:∃x,ys[0]?=some x:=by
       cases ys with
       |nil=>exact absurd rfl hne
       |cons x r=>exact⟨x,rfl⟩
      obtain⟨cs,c1,c2,_⟩:=el 0 x hx;have:=c2 0 hsz;rw[lE (by omega)]at this;simp only[Nat.zero_mul]at this;have:=(sk this).1;simpa[Addr.add]using this
     have cell:∀(i j:Nat)(x:AV),ys[i]?=some x->j<P.cellsOf e'->∃c v,cF w a.block=some c/\c[a.off+i*P.cellsOf e'+j]?=some v/\∀y,x.cells[j]?=some y->VRel (λ_=>none) (cF w) y v:=by
      intro i j x hx hj;obtain⟨cs,c1,c2,c3,c4,_⟩:=el i x hx;have:=c2 j hj;rw[lE (by omega),addadd _ _ (spot (by intro h;rw[h]at hx;simp at hx))]at this;obtain⟨_,c,m1,m2⟩:=sk this;refine⟨c,_,m1,m2,λy hy=>?_⟩;have:=c3.at_ j y hy;rw[iZ]at this;simp only[ou]at this;rw[lE (by omega)]at this;exact this
     refine one ?_ rfl;by_cases hne:ys=[]
     ·subst hne;simp at q1;subst q1;exact .ps (sz:=P.cellsOf e') (c:=#[]) (by simp) (λh=>by cases h) (λh=>absurd rfl h) (λx h=>by simp at h) (λi x j y h=>by simp at h)
     ·have hlen:0<ys.length:=qB.2 hne;obtain⟨x0,hx0⟩:∃x,ys[ys.length-1]?=some x:=⟨ys[ys.length-1],by simp⟩
      obtain⟨c,v0,m1,m2,_⟩:=cell (ys.length-1) (P.cellsOf e'-1) x0 hx0 (by omega);have hc:=(su.1 m2).1;have hfit:a.off+ys.length*P.cellsOf e'<=c.size:=by
       have h1:(ys.length-1)*P.cellsOf e'+P.cellsOf e'=ys.length*P.cellsOf e':=by rw[<-qE];congr 1;omega
       omega
      have:=VRel.ps (pl:=λ_=>none) (M:=cF w) (xs:=ys) (tight:=false) (a:=a) (cap:=cap) (sz:=P.cellsOf e') (c:=c) (by omega) (λh=>by cases h) (λ_=>⟨spot hne,m1,hfit,hsz⟩)
       (λx hx=>by
        obtain⟨i,hi⟩:=GU.1 hx;obtain⟨_,_,_,_,r1,r2⟩:=el i x hi;exact⟨r1,r2⟩)
       (λi x j y hx hy=>by
        obtain⟨_,_,_,_,r1,_⟩:=el i x hx;have hj:j<P.cellsOf e':=by rw[<-r1];exact(fP.1 hy).1
        obtain⟨c',v,n1,n2,n3⟩:=cell i j x hx hj;rw[m1]at n1;cases n1
        rw[iZ,n2];exact n3 y hy)
      rw[q1]at this;exact this
    ·cases e
  ·rename_i fs ds ht;obtain⟨e1,e2⟩:=xR e;obtain⟨zs,n,rfl,h1,h2,h3,h4⟩:=DataW.trod_struct ht h;simp only[sr,DataW.agg.injEq]at h1;obtain⟨rfl,_⟩:=h1;have:=vH (P:=P) (cs:=cs) (f:=FG P k) (tr:=λt cs=>DataW.trod enc P w base spare held n t cs) (λt cs d p xs a b=>ub k n t cs d p xs a b) fs.toList zs 0 xs e1 (λi x hx=>h4 i x (by simpa using hx)) (by omega);simpa using this
  ·rename_i n0 e' ds ht;obtain⟨e1,e2⟩:=xR e;obtain⟨zs,n,rfl,h1,h2,h3,h4⟩:=DataW.trod_array ht h;simp only[sr,DataW.agg.injEq]at h1;obtain⟨rfl,_⟩:=h1;have:=yq (cs:=cs) (f:=FG P k e') (tr:=λcs=>DataW.trod enc P w base spare held n e' cs) (sz:=P.cellsOf e') (λcs d p xs a b=>ub k n e' cs d p xs a b) zs 0 xs e1 (λi hi=>by rw[fx];exact h4 i (by omega)) (by omega);simpa using this
  ·cases e
end
end Go.Ev
namespace Go.Ev
open Go Go.ChangeShapes Go.RowKit
section
variable{H:Type}{enc:TypeId×Value->H}{P:Program}{G:fz}{W W':World}
def K6:List (Nat×AV)->fz
 |[]=>λ_=>none
 |p::r=>λg=>match Nat.beq p.1 g with|true=>some p.2|false=>K6 r g
theorem Be:∀{l:List (Nat×AV)}{g:Nat}{x:AV},K6 l g=some x->(g,x)∈l
 |[],g,x,h=>by simp[K6]at h
 |p::r,g,x,h=>by
  simp only[K6,aD]at h;by_cases q:p.1=g
  ·simp[q]at h;subst h;subst q;simp
  ·simp[q]at h;exact di _ (Be h)
theorem HO{l:List (Nat×AV)}{pl:Pl}{M:dN}(h:∀p,p∈l->Uz pl M p.1 p.2):qc (K6 l) pl M:=λg x hg=>h (g,x) (Be hg)
theorem Fj{l:List (Nat×AV)}(h:(l.all λp=>Nat.beq p.2.top 0)=true):jK (K6 l):=λg x hg=>by
 have:=mf.1 h _ (Be hg);simp_all
theorem HR{g:Nat}{cs:Array Value}{t:TypeId}{fr:Nat×Nat}{x:AV}(hc:W.heap[g]?=some (.cells cs t fr))(h:VRels (λ_=>none) (cF W) x.cells cs)(hs:Sc x)(hp:0<x.cells.length):
  Uz (λ_=>none) (cF W) g x:=by
 have hM:cF W g=some cs:=by grind[cF]
 have hl:=h.len;have:=VRel.pptr (pl:=λ_=>none) (M:=cF W) (xs:=[x]) (i:=0) (off:=0) (a:=⟨g,0,none⟩) (sz:=x.cells.length) (c:=cs) ⟨rfl,hM,by simp_all,hp⟩
  (λy hy=>by simp_all) (by simp) (λi y j z hy hz=>by grind[cases VRels])
 exact⟨by simp_all,cs,hM,hl.symm⟩
theorem vW{laid:List (String×DataW Unit)}{n:String}{d:DataW Unit}(k:Nat){g:Nat}{t:TypeId}{xs:laa}{x:AV}(h:laidMet P laid W)(hm:(n,d)∈laid)(hg:P.globalNamed n=some g)(ht:(P.globals[g]?).map (·.type)=some t)
  (ha:FG P k t d=some xs){ag:Bool}(he:wO ag xs=some x)(hp:Nat.blt 0 xs.length=true):Uz (λ_=>none) (cF W) g x:=by
 obtain⟨ps,hl,_,_⟩:=h;have key:∀(l:List (String×DataW Unit))(ps:laz),DataW.LaidVars P W l ps->(n,d)∈l->∃g t cs fuel p,P.globalNamed n=some g/\(P.globals[g]?).map (·.type)=some t/\W.var? P n=some cs/\DataW.trod (λ_=>()) P W 0 (λ_=>true) false fuel t cs.toList=some (d,p):=by
  intro l;induction l with
  |nil=>simp_all
  |cons q r ih=>
   obtain⟨n',d'⟩:=q;intro ps h hm;obtain⟨g,t,cs,fuel,p,q,h1,h2,h3,h4,h5,_⟩:=h;grind
 obtain⟨g',t',cs,fuel,p,h1,h2,h3,h4⟩:=key _ _ hl hm;rw[hg]at h1;cases h1
 rw[ht]at h2;cases h2
 obtain⟨r1,r2⟩:=ub k fuel t cs.toList d p xs ha h4;obtain⟨c1,c2⟩:=vd he r2;have hc:∃t fr,W.heap[g]?=some (.cells cs t fr):=by grind[World.var?]
 obtain⟨t2,fr,hc⟩:=hc;refine HR hc ?_ c2 ?_;all_goals simp_all
theorem Vt{f:FuncId}{fn:Func}{c:Code}{args:laa}{vs:Array Value}(hf:P.funcs[f]?=some fn)(hN:(fn.name== "runtime.NumGoroutine")=false)(hb:fn.body=some c)
  (hG:qc G (λ_=>none) (cF W))(hv:VRels (λ_=>none) (cF W) args vs)(h:aO P G f args AHeap.none (λv _=>v=.bool true)):
  Calls P f vs W λe W'=>e=.returned (.bool true)/\Below W.heap.size W W':=by
 have fin:∀cv v h' W',v=.bool true->ip (λ_=>none) (cF W) AHeap.none W v h' cv W'->cv=.bool true/\Below W.heap.size W W':=by
  intro cv v h' W' e ⟨pl',M',k1,k2,k3,k4⟩;subst e;cases k1
  exact⟨rfl,k3.os,k3.tape,k3.out,k3.size,λb hb=>k3.kept b hb λid p h=>by simp_all⟩
 rcases h (λ_=>none) (cF W) W vs hG (Ou W) hv with⟨h1,h2⟩|⟨cv,w',v,h',h1,h2,h3⟩
 ·exact Calls.mono h2 λe w' ⟨cv,v,h',k1,k2,k3⟩=>by grind
 simp_all[callFunc]
theorem sH(hl:laidOutB P=true)(hb:Below W.heap.size W W'):∀{ts:List TypeId}{vs:lao}{ds:List (DataW H)}{ps:laz},(ts.all λt=>P.readableRec t&&decide (t<P.types.size))=true->DataW.TrodAll enc P W 0 (λ_=>true) true ts vs ds ps->(∀x∈ps,x.block<W.heap.size)->
  DataW.TrodAll enc P W' 0 (λb=>decide (b<W.heap.size)) true ts vs ds ps
 |[],[],[],_,_,h,_=>h
 |t::ts,v::vs,d::ds,ps,hr,h,hlt=>by
  obtain⟨p,q,h1,h2,rfl⟩:=h;simp only[List.all_cons,ba,decide_eq_true_eq]at hr;exact⟨p,q,hb.trod hl hr.1.1 hr.1.2 h1 (λx hx=>hlt x (ie.2 (.inl hx))),sH hl hb hr.2 h2 (λx hx=>hlt x (ie.2 (.inr hx))),rfl⟩
 |[],_::_,_,_,_,h,_=>by grind[DataW.TrodAll]
 |[],[],_::_,_,_,h,_=>by grind[DataW.TrodAll]
 |_::_,[],_,_,_,h,_=>by grind[DataW.TrodAll]
 |_::_,_::_,[],_,_,h,_=>by grind[DataW.TrodAll]
theorem RT{f:Func}{s:ChangeSpec}{args:Array Value}{ds gs:List (DataW H)}{before:laz}{tb:TypeId}(hl:laidOutB P=true)(hr:(f.params.toList.all λt=>P.readableRec t&&decide (t<P.types.size))=true)
  (hvars:s.vars=[])(hfn:s.fn H (ds++gs)={results:=[.lit (.bool true)],args:=ds})(hres:f.resultTypes.toList=[tb])(htb:P.underlying tb=some .bool)
  (hW:DataW.Whole enc P f.params.toList s.vars false W args.toList ds gs before)(hb:Below W.heap.size W W'):s.post enc P f false true false false W args (.bool true) W':=by
 have hlt:=hW.lt;have hW0:=hW;obtain⟨p,q,hA,hV,rfl,hz,_⟩:=hW;have hV':=hV;rw[hvars]at hV';obtain⟨rfl,rfl⟩:=trodVars_none hV';simp only[eu]at hlt hz hfn;have hsz:f.resultTypes.size=1:=by rw[<-Array.length_toList,hres];rfl
 refine⟨ds,[],p++[],[],p,[],hW0,?_,?_,?_,hb.frame _,λh=>by grind⟩
 ·rw[eu,hfn,hres,hsz];exact trodAll_mk1 (shut_bool htb true)
 ·grind[sH]
 ·rw[eu,hfn,hvars];exact rfl
end
section
variable{P:Program}{G:fz}{b:lan}{ops:Array Oper}{l:las}{o:Oper}{s s':St}{h h' h1 hv:AHeap}{v:AV}{A A' F:Fr}{call:cn}{f:FuncId}{args:laa}{c d:Code}{pl pl':Pl}{M M':dN}{w w':World}{a:Act}{r:Rec}
theorem xl{nk n0:Nat}{g:Nat->lav}{W:Nat->Prop}{o:Oper}(hr:RepF pl M nk g w)(hn0:n0<=hv.n)(hvg:∀id o,hv.get id=some o->g id=some o)(ho:∀id o,hv.get id=some o->o.top<=hv.n)
  (hf:FrRel (de pl hv.n) M A a)(hg:qc G (de pl hv.n) M){f:FuncId}{args:laa}(e:(fc P G o.op).run A hv=some (.call f args))(e2:aO P G f args hv (λv1 h1=>v1=v/\h1=h'))(hnk:h'.n=hv.n\/h'.n<=nk)
  (hU:∀id,hv.n<=id->id<h'.n->pl id=none)(W1:∀id,id<hv.n->¬W id->hv.get id≠none->h'.get id=hv.get id)
  (W2:∀id,W id->id<hv.n->hv.get id≠none)(W3:∀id,W id->id<h'.n)(W4:∀id,hv.n<=id->id<h'.n->W id)
  {K:Act->World->Prop}{Q:Exit->Act->World->Prop}
  (hK:∀cv w' pl' M',RepF pl' M' nk (ku W g h'.get) w'->StepF n0 g pl M w (ku W g h'.get) pl' M' w'->VRel pl' M' v cv->nS pl pl'->(∀id,h'.n<=id->pl' id=pl id)->K (a.put o.dst cv) w'):
  o.wp P a w K Q:=by
 obtain⟨vs,k1,k2⟩:=uO (P:=P) (w:=w) hg hf e;have fin:∀cv w1,ip (de pl hv.n) M hv w v h' cv w1->K (a.put o.dst cv) w1:=by
  intro cv w1 ⟨pl1,M1,q3,q4,q5,q6⟩;obtain⟨r1,r2,r3,r4⟩:=NJ hr hn0 hvg q4 q5 q6 hnk hU W1 W2 W3 W4;exact hK cv w1 _ M1 r1 r2 (q3.mono r3 (λ_ _ h=>h)) r4 (λid hid=>by grind[fD])
 unfold Oper.wp;rw[k2];rcases e2 _ M w vs hg (wU hr hvg ho) k1 with⟨q1,q2⟩|⟨cv,w1,v',h'',q1,⟨rfl,rfl⟩,q2⟩
 ·rw[q1];refine Calls.mono q2 λen w'' ⟨cv,v',h'',e1,hh,e3⟩=>?_
  simp_all
 ·rw[q1];exact fin cv w1 q2
mutual
def ren(ρ:Nat->Nat):AV->AV
 | .ptr id a b c=>.ptr (ρ id) a b c
 | .slice id a b c d=>.slice (ρ id) a b c d
 | .sl0 id a b c=>.sl0 (ρ id) a b c
 | .map id=>.map (ρ id)
 | .func fn a b=>.func fn (mw ρ a) (mw ρ b)
 | .iface t v=>.iface t (ren ρ v)
 | .agg cs=>.agg (mw ρ cs)
 | .tuple cs=>.tuple (mw ρ cs)
 | .ps xs t=>.ps (mw ρ xs) t
 | .ls xs=>.ls xs
 | .pptr xs i o=>.pptr (mw ρ xs) i o
 | .bool b=>.bool b
 | .int k n=>.int k n
 | .str s=>.str s
 | .nilp=>.nilp
 | .nils=>.nils
 | .nilm=>.nilm
 | .nilf=>.nilf
 | .nili=>.nili
def mw(ρ:Nat->Nat):laa->laa
 |[]=>[]
 |x::r=>ren ρ x::mw ρ r
end
def ko(ρ:Nat->Nat):laq->laq
 |[]=>[]
 |e::r=>⟨ren ρ e.key,ren ρ e.val,e.born⟩::ko ρ r
def kn(ρ:Nat->Nat):AObj->AObj
 | .row a b c xs=>.row a b c (mw ρ xs)
 | .map es c=>.map (ko ρ es) c
 | .miter m c s=>.miter (ren ρ m) c s
 |o=>o
theorem fm(ρ:Nat->Nat):∀(xs:laa),mw ρ xs=xs.map (ren ρ)
 |[]=>rfl
 |x::r=>by simp[mw,fm ρ r]
theorem rW(ρ:Nat->Nat):∀(xs:laq),ko ρ xs=xs.map λe=>⟨ren ρ e.key,ren ρ e.val,e.born⟩
 |[]=>rfl
 |x::r=>by simp[ko,rW ρ r]
theorem sX{a b:Nat}(h:Nat.mx a b=0):a=0/\b=0:=by
 have:=rU.1 (uj h);omega
mutual
theorem iC(ρ:Nat->Nat):∀(v:AV),v.top=0->ren ρ v=v
 | .ptr ..,h=>by simp[AV.top]at h
 | .slice ..,h=>by simp[AV.top]at h
 | .sl0 ..,h=>by simp[AV.top]at h
 | .map _,h=>by simp[AV.top]at h
 | .func fn a b,h=>by simp only[AV.top]at h;simp only[ren,fk ρ a (sX h).1,fk ρ b (sX h).2]
 | .iface t v,h=>by simp only[AV.top]at h;simp only[ren,iC ρ v h]
 | .agg cs,h=>by simp only[AV.top]at h;simp only[ren,fk ρ cs h]
 | .tuple cs,h=>by simp only[AV.top]at h;simp only[ren,fk ρ cs h]
 | .ps xs t,h=>by simp only[AV.top]at h;simp only[ren,fk ρ xs h]
 | .ls xs,_=>rfl
 | .pptr xs i o,h=>by simp only[AV.top]at h;simp only[ren,fk ρ xs h]
 | .bool b,_=>rfl
 | .int k n,_=>rfl
 | .str s,_=>rfl
 | .nilp,_=>rfl
 | .nils,_=>rfl
 | .nilm,_=>rfl
 | .nilf,_=>rfl
 | .nili,_=>rfl
theorem fk(ρ:Nat->Nat):∀(vs:laa),az vs=0->mw ρ vs=vs
 |[],_=>rfl
 |x::r,h=>by
  simp only[az]at h;simp only[mw,iC ρ x (sX h).1,fk ρ r (sX h).2]
end
theorem gq(ρ:Nat->Nat)(v:AV):(ren ρ v).cells=v.cells.map (ren ρ):=by cases v<;>simp[ren,AV.cells,fm]
theorem oC(ρ:Nat->Nat)(v:AV):dq (ren ρ v)=dq v:=by cases v<;>rfl
def kJ(ρ:Nat->Nat)(n:Nat)(pl:Pl):Pl:=λid=>if id<n then pl (ρ id)else none
theorem uB{ρ:Nat->Nat}{n id:Nat}{p:Place}(h:id<n)(hp:pl (ρ id)=some p):kJ ρ n pl id=some p:=by grind[kJ]
theorem VRel.ren{ρ:Nat->Nat}{n:Nat}{u v:AV}{x:Value}(h:VRel pl M u x)(hu:u=Ev.ren ρ v)(ht:v.top<=n):VRel (kJ ρ n pl) M v x:=by
 have elem:∀{xs:laa}{i:Nat}{z:AV},xs[i]?=some z->(xs.map (Ev.ren ρ))[i]?=some (Ev.ren ρ z):=by grind
 have cel:∀{z y:AV}{j:Nat},z.cells[j]?=some y->(Ev.ren ρ z).cells[j]?=some (Ev.ren ρ y):=by grind[gq]
 have tp:∀{xs:laa}{i j:Nat}{z y:AV},az xs<=n->xs[i]?=some z->z.cells[j]?=some y->y.top<=n:=by
  intro xs i j x y h1 h2 h3;exact ly (dS.1 h1 x (bC h2)) (bC h3)
 have sc:∀{xs:laa}{sz:Nat},(∀x,x∈xs.map (Ev.ren ρ)->x.cells.length=sz/\Sc x)->∀x,x∈xs->x.cells.length=sz/\Sc x:=by
  intro xs sz h x hx;obtain⟨h1,h2⟩:=h (Ev.ren ρ x) (xq hx);rw[gq]at h1;refine⟨by simp_all,λy hy=>?_⟩;have:=h2 (Ev.ren ρ y) (by grind[gq]);grind[oC]
 induction h generalizing v with
 |bool b=>cases v<;>simp[Ev.ren]at hu;subst hu;exact .bool _
 |int k n=>cases v<;>simp[Ev.ren]at hu;obtain⟨rfl,rfl⟩:=hu;exact .int _ _
 |str s=>cases v<;>simp[Ev.ren]at hu;subst hu;exact .str _
 |nilp=>cases v<;>simp[Ev.ren]at hu;exact .nilp
 |ptr hp he ha=>
  cases v<;>simp[Ev.ren]at hu
  obtain⟨rfl,rfl,rfl,rfl⟩:=hu;simp only[AV.top]at ht;exact .ptr (uB (by omega) hp) he ha
 |pptr hm hs hi hc ih=>
  cases v<;>simp[Ev.ren]at hu
  obtain⟨h1,rfl,rfl⟩:=hu;rw[fm]at h1;subst h1;simp only[AV.top]at ht;refine .pptr ⟨hm.1,hm.2.1,by simp_all,hm.2.2.2⟩ (sc hs) (by simp_all) (λi z j y k1 k2=>ih i _ j _ (elem k1) (cel k2) rfl (tp ht k1 k2))
 |nils=>cases v<;>simp[Ev.ren]at hu;exact .nils
 |slice hp he hl hk ha=>
  cases v<;>simp[Ev.ren]at hu
  obtain⟨rfl,rfl,rfl,rfl,rfl⟩:=hu;simp only[AV.top]at ht;exact .slice (uB (by omega) hp) he hl hk ha
 |sl0n _ ih=>
  cases v<;>simp[Ev.ren]at hu
  obtain⟨rfl,rfl,rfl,rfl⟩:=hu;exact .sl0n (ih (v:=.ls []) rfl (b6 _))
 |sl0s _ ih=>
  cases v<;>simp[Ev.ren]at hu
  obtain⟨rfl,rfl,rfl,rfl⟩:=hu;exact .sl0s (ih (v:=.slice _ _ 0 _ _) rfl ht)
 |ps hl ht' hm hs hc ih=>
  cases v<;>simp[Ev.ren]at hu
  obtain⟨h1,rfl⟩:=hu;rw[fm]at h1;subst h1;simp only[AV.top]at ht;have:=VRel.ps (pl:=kJ ρ n pl) (by simpa using hl) (by simpa using ht') (by simp_all) (sc hs) (λi z j y k1 k2=>ih i _ j _ (elem k1) (cel k2) rfl (tp ht k1 k2));simp_all
 |lsn=>
  cases v<;>simp[Ev.ren]at hu
  subst hu;exact .lsn
 |lsp h ht0 ih=>
  cases v<;>simp[Ev.ren]at hu
  subst hu;exact .lsp (ih (v:=.ps _ false) (by grind[Ev.ren,fk]) (by grind[AV.top])) ht0
 |nilm=>cases v<;>simp[Ev.ren]at hu;exact .nilm
 |map hp ha=>
  cases v<;>simp[Ev.ren]at hu
  subst hu;simp only[AV.top]at ht;exact .map (uB (by omega) hp) ha
 |func h1 h2 h3 h4 ih1 ih2=>
  cases v<;>simp[Ev.ren]at hu
  obtain⟨rfl,e1,e2⟩:=hu;rw[fm]at e1 e2;subst e1;subst e2;simp only[AV.top,rU]at ht;exact .func (by simp_all) (by simp_all) (λj y hj=>ih1 j _ (elem hj) rfl (dS.1 ht.1 y (bC hj))) (λj y hj=>ih2 j _ (elem hj) rfl (dS.1 ht.2 y (bC hj)))
 |nilf=>cases v<;>simp[Ev.ren]at hu;exact .nilf
 |iface _ ih=>
  cases v<;>simp[Ev.ren]at hu
  obtain⟨rfl,e1⟩:=hu;simp only[AV.top]at ht;exact .iface (ih e1 ht)
 |nili=>cases v<;>simp[Ev.ren]at hu;exact .nili
 |agg h1 h2 _ ih=>
  cases v<;>simp[Ev.ren]at hu
  rw[fm]at hu;subst hu;simp only[AV.top]at ht;refine .agg (by simp_all) (λy hy=>?_) (λj y hj=>ih j _ (elem hj) rfl (dS.1 ht y (bC hj)));grind[List.mem_map_of_mem,oC]
 |tuple h1 _ ih=>
  cases v<;>simp[Ev.ren]at hu
  rw[fm]at hu;subst hu;simp only[AV.top]at ht;exact .tuple (by simp_all) (λj y hj=>ih j _ (elem hj) rfl (dS.1 ht y (bC hj)))
theorem bm.ren{ρ:Nat->Nat}{n:Nat}{o:AObj}{p:Place}{x:Option Obj}(h:bm pl M p (kn ρ o) x)(ht:o.top<=n):bm (kJ ρ n pl) M p o x:=by
 match o,x with
 | .dead,_=>trivial
 | .row sz op ep xs,some (.cells c t fr)=>
  obtain⟨h1,h2,h3,h4,h5,h6,h7,h8⟩:=h;rw[fm]at h3 h7 h8;simp only[cw]at h3 h7;simp only[AObj.top]at ht;refine⟨h1,h2,h3,h4,h5,h6,h7,⟨by simpa using h8.fit,λy hy=>?_,λi z j y k1 k2=>?_⟩⟩
  ·obtain⟨q1,q2⟩:=h8.elem (Ev.ren ρ y) (xq hy);rw[gq]at q1;refine⟨by simp_all,λu hu=>?_⟩;have:=q2 (Ev.ren ρ u) (by grind[gq]);grind[oC]
  ·exact(h8.cell i (Ev.ren ρ z) j (Ev.ren ρ y) (by simp_all) (by grind[gq])).ren rfl (ly (dS.1 ht z (bC k1)) (bC k2))
 | .map es clock,some (.map entries clock')=>
  obtain⟨h1,h2,h3,h4⟩:=h;rw[rW]at h3 h4;simp only[AObj.top]at ht;refine⟨h1,h2,by simp_all,λi e hi=>?_⟩;obtain⟨e',k1,k2,k3,k4⟩:=h4 i ⟨Ev.ren ρ e.key,Ev.ren ρ e.val,e.born⟩ (by simp_all);have:=pN.1 ht e (bC hi);exact⟨e',k1,k2.ren rfl this.1,k3.ren rfl this.2,k4⟩
 | .siter s pos,some (.stringIter s' pos')=>exact h
 | .miter m clock seen,some (.mapIter m' since seen' stepped)=>simp only[AObj.top]at ht;exact⟨h.1,h.2.1,h.2.2.1.ren rfl ht,h.2.2.2⟩
end
noncomputable def eF(h:AHeap):Nat->Nat->Option lai
 |0,_=>some []
 |k+1,i=>match h.get i with
  |some o=>match eF h k (i+1)with|some l=>some (o::l)|none=>none
  |none=>none
section
variable{P:Program}{G:fz}{b:lan}{ops:Array Oper}{l:las}{o:Oper}{s s':St}{h h':AHeap}{v:AV}{A A':Fr}{call:cn}{f:FuncId}{args:laa}{c d:Code}
theorem ez:∀(k i:Nat)(os:lai),eF h k i=some os->os.length=k/\∀(j:Nat)(o:AObj),os[j]?=some o->h.get (i+j)=some o
 |0,i,os,e=>by simp[eF]at e;subst e;exact⟨rfl,λj o h=>by simp at h⟩
 | k+1,i,os,e=>by
  simp only[eF]at e;cases hq:h.get i with
  |none=>rw[hq]at e;simp at e
  | some o'=>
   cases hr:eF h k (i+1)with
   |none=>rw[hq,hr]at e;simp at e
   |some r=>
    rw[hq,hr]at e;simp at e;subst e;obtain⟨h1,h2⟩:=ez k (i+1) r hr;refine⟨by simp[h1],λj o hj=>?_⟩;cases j with
    |zero=>simp at hj;subst hj;simpa using hq
    |succ j=>rw[show i+(j+1)=i+1+j by omega];exact h2 j o (by simpa using hj)
end
end Go.Ev
namespace Go.Ev
open Go
abbrev XC:Ids:=⟨false,[],0,0⟩
abbrev rd(ids:laf):Rec:=⟨⟨false,ids,0,0⟩,XC⟩
abbrev wr(ids:laf)(n m:Nat):Rec:=⟨⟨false,ids,0,0⟩,⟨false,ids,n,m⟩⟩
abbrev cl(n:Nat):Rec:=⟨⟨true,[],n,n⟩,XC⟩
noncomputable abbrev dop(P:Program)(G:fz)(ops:Array Oper)(o:Oper):DOper:=⟨bR P G ops o,o.looksAt ops,dE o.op,da o.op,0⟩
section
variable{P:Program}{G:fz}{b:lan}{ops:Array Oper}{l rest:las}{o:Oper}{h h' h1:AHeap}{v:AV}{call:cn}{f:FuncId}{args:laa}{k n t:Nat}{L:List (Nat×AV)}{rs:List Rec}{Φ:Fr->AHeap->Prop}
theorem s9.step{F F':Fr}{r:Rec}(hs:DSpec P G ops o (o.looksAt ops) F h v h1 r)(hcl:lm (fV (eb ops.toList 0 []) k) r rs k=true)(hp:jU F o.dst v=some F')(next:s9 P G ops (k+1) rest F' h1 (r::rs) Φ):
  s9 P G ops k (o::rest) F h rs Φ:=⟨v,h1,r,F',hs,hcl,hp,next⟩
theorem s9.done{F:Fr}(hn:Nat.ble h.n 1000000=true)(h0:Φ F h):s9 P G ops k [] F h rs Φ:=⟨by rw[bd]at hn;simpa using hn,h0⟩
end
section
variable{P:Program}{G:fz}{b:lan}{ops:Array Oper}{l:las}{s:St}{call:cn}
end
def Le(u v:AV):Prop:=∀(pl:Pl)(M:dN)(x:Value),VRel pl M v x->VRel pl M u x
theorem Le.refl(v:AV):Le v v:=λ_ _ _ h=>h
theorem Le.trans{a b c:AV}(h:Le a b)(k:Le b c):Le a c:=λpl M x hx=>h pl M x (k pl M x hx)
theorem Le.nils:Le (.ls []) .nils:=λ_ _ _ h=>by cases h;exact .lsn
theorem Le.ps(xs:laa)(t:Bool)(h0:az xs=0):Le (.ls xs) (.ps xs t):=λ_ _ _ h=>.lsp h.loose h0
theorem Le.loose(xs:laa)(t:Bool):Le (.ps xs false) (.ps xs t):=λ_ _ _ h=>h.loose
inductive Les:laa->laa->Prop
 |nil:Les [] []
 |cons {u v:AV} {us vs:laa} (h:Le u v) (k:Les us vs):Les (u::us) (v::vs)
theorem Les.refl:∀(vs:laa),Les vs vs
 |[]=>.nil
 |v::r=>.cons (Le.refl v) (Les.refl r)
theorem Les.len{us vs:laa}(h:Les us vs):us.length=vs.length:=by
 induction h with
 |nil=>rfl
 |cons _ _ ih=>simp_all
theorem Les.at_{us vs:laa}(h:Les us vs):∀(j:Nat)(u:AV),us[j]?=some u->∃v,vs[j]?=some v/\Le u v:=by
 induction h with
 |nil=>simp_all
 |cons h k ih=>grind
theorem VRels.le{pl:Pl}{M:dN}{us vs:laa}{xs:Array Value}(h:VRels pl M vs xs)(hl:Les us vs):VRels pl M us xs:=
 ⟨hl.len.trans h.len,λj u hj=>by
  obtain⟨v,h1,h2⟩:=hl.at_ j u hj;exact h2 _ _ _ (h.at_ j v h1)⟩
theorem Le.agg{us vs:laa}(h:Les us vs)(hs:∀u,u∈us->dq u=true):Le (.agg us) (.agg vs):=by
 intro pl M x hx;cases hx with
 |agg h1 h2 h3=>
  refine .agg (h.len.trans h1) hs λj u hj=>?_
  obtain⟨v,k1,k2⟩:=h.at_ j u hj;exact k2 _ _ _ (h3 j v k1)
theorem Le.tuple{us vs:laa}(h:Les us vs):Le (.tuple us) (.tuple vs):=by
 intro pl M x hx;cases hx with
 |tuple h1 h3=>
  refine .tuple (h.len.trans h1) λj u hj=>?_
  obtain⟨v,k1,k2⟩:=h.at_ j u hj;exact k2 _ _ _ (h3 j v k1)
section
variable{P:Program}{G:fz}{b:lan}{ops:Array Oper}{l:las}{o:Oper}{s s':St}{h h':AHeap}{v:AV}{A A':Fr}{f:FuncId}{args args':laa}{c:Code}{n t:Nat}{L:List (Nat×AV)}
theorem aO.onArgs{Ψ:AV->AHeap->Prop}(hl:Les args' args)(hc:aO P G f args' h Ψ):aO P G f args h Ψ:=λpl M w vs hg hr hv=>hc pl M w vs hg hr (hv.le hl)
theorem aP.onArgs(hl:Les args' args)(hc:aP P G f args' v):aP P G f args v:=λh=>(hc h).onArgs hl
theorem aO.less{Ψ Ψ':AV->AHeap->Prop}(hc:aO P G f args h Ψ)(hi:∀v h',Ψ v h'->∃u,Le u v/\Ψ' u h'):aO P G f args h Ψ':=by
 intro pl M w vs hg hr hv;have key:∀cv v h' w',Ψ v h'->ip pl M h w v h' cv w'->∃u,Ψ' u h'/\ip pl M h w u h' cv w':=by
  intro cv v h' w' hp ⟨pl',M',k1,k2⟩;obtain⟨u,e1,e2⟩:=hi v h' hp;exact⟨u,e2,pl',M',e1 _ _ _ k1,k2⟩
 rcases hc pl M w vs hg hr hv with⟨h1,h2⟩|⟨cv,w',v,h',h1,h2,h3⟩
 ·refine .inl ⟨h1,Calls.mono h2 λe w' ⟨cv,v,h',k1,k2,k3⟩=>?_⟩;grind
 ·obtain⟨u,z1,z2⟩:=key cv v h' w' h2 h3;exact .inr ⟨cv,w',u,h',h1,z1,z2⟩
theorem aP.less{u:AV}(hc:aP P G f args v)(hl:Le u v):aP P G f args u:=λh=>(hc h).less λv1 h1 ⟨e1,e2⟩=>⟨u,by simp_all,rfl,e2⟩
end
abbrev ak(b:Bool):Bool:=Bool.not b
theorem be(x:Int):ae x x=true:=by cases x<;>exact qt _
def jF(x y:Int):Int:=match aE x y with|true=> -1|false=>match aE y x with|true=>1|false=>0
section
variable{P:Program}{G:fz}{b:lan}{c:Code}{s:St}
end
theorem uP{b:Bool}(h:ak b=true):b=false:=by simp_all
theorem uR{b:Bool}(h:ak b=false):b=true:=by simp_all
theorem M9{α β:Type}(f:α->β):∀(xs:List α)(i:Nat),jI (xs.map f) i=(jI xs i).map f
 |[],_=>rfl
 |_::_,0=>rfl
 |_::r,i+1=>M9 f r i
theorem po{α:Type}:∀(xs:List α)(i:Nat),jI xs i=xs[i]?
 |[],i=>by simp[jI]
 |_::_,0=>rfl
 |_::r,i+1=>by simp[jI,po r i]
theorem NY(a b:Nat):aE (.ofNat a) (.ofNat b)=Nat.blt a b:=rfl
theorem Lb{a b:Nat}(h:a<b):Nat.blt a b=true:=tZ h
theorem Rm{a b:Nat}(h:Nat.blt a b=true):a<b:=wQ h
theorem N7{a b:Nat}(h:¬a<b):Nat.blt a b=false:=by
 cases q:Nat.blt a b with
 |false=>rfl
 |true=>exact absurd (Rm q) h
theorem Yt{a b:Nat}(h:a<b):aE (.ofNat a) (.ofNat b)=true:=Lb h
theorem Vr{a b:Nat}(h:b<=a):aE (.ofNat a) (.ofNat b)=false:=by
 rw[NY];cases q:Nat.blt a b with
 |false=>rfl
 |true=>exact absurd (Rm q) (by omega)
theorem wB{a b:Int}:aE a b=decide (a<b):=by
 cases a with
 |ofNat a=>cases b with
  |ofNat b=>grind[NY,Lb,N7]
  |negSucc b=>exact(decide_eq_false (λh=>by grind)).symm
 | negSucc a=>cases b with
  |ofNat b=>exact(decide_eq_true (by grind)).symm
  |negSucc b=>
   show Nat.blt b a=_
   grind[Lb,N7]
section
variable{P:Program}{G:fz}{b:lan}{c d:Code}{s:St}{n:Nat}{ops:Array Oper}{l:las}{o:Oper}{h:AHeap}{v:AV}{L:List (Nat×AV)}
theorem Ja{Φ:AExit->St->Prop}{x:Operand}{t:Bool}(h:t=true)(hx:(cA G x).run s.tmps=some (.bool t))(h1:aA P G b c s Φ):aA P G b (.cond x c d) s Φ:=aA.cond hx (λ_=>h1) (λk=>by grind)
theorem Jb{Φ:AExit->St->Prop}{x:Operand}{t:Bool}(h:t=false)(hx:(cA G x).run s.tmps=some (.bool t))(h1:aA P G b d s Φ):aA P G b (.cond x c d) s Φ:=aA.cond hx (λk=>by grind) (λ_=>h1)
def LN(fs:List FuncId)(call:cn):cn:=λf args h=>match ja f fs with|true=>none|false=>call f args h
theorem zn{call:cn}(fs:List FuncId)(hc:cW P G call):cW P G (LN fs call):=by
 intro f args h v h' e;unfold LN at e;split at e
 ·grind
 ·exact hc f args h v h' e
end
noncomputable def bv(h:AHeap):Nat->Option lai
 |0=>some []
 |k+1=>match bv h k,h.get k with|some l,some o=>some (l++[o])|_,_=>none
section
variable{P:Program}{G:fz}{c:Code}{n:Nat}{L:List (Nat×AV)}{h0:AHeap}
end
def cV(G:fz)(b:lan)(s s':St):Prop:=∀(N:Nat)(h0:AHeap)(pl0:Pl)(M0:dN)(w0:World)(a:Act)(w:World),Xd b h0 pl0->SNow G N h0 pl0 M0 w0 s a w->SNow G N h0 pl0 M0 w0 s' a w
noncomputable section
def frzP(h:AHeap)(k n:Nat)(v:AV):lae:=
 match v with
 | .ptr id ep i off=>
  match Nat.blt id n with
  |true=>some v
  | false=>match h.get id with
   | some (.row _ _ ep' xs)=>
    match Nat.beq ep ep'&&Nat.blt i xs.length with
    |true=>match tF (frz h k n) xs with
     |some ys=>some (.pptr ys i off)
     |none=>none
    |false=>none
   |_=>none
 |v=>frz h k n v
def Su(h:AHeap)(k n:Nat)(v:AV):lae:=
 match v with
 | .func fn a b=>match tF (frz h k n) a,tF (frzP h k n) b with
  |some a,some b=>some (.func fn a b)
  |_,_=>none
 |v=>frzP h k n v
def frzL(A:Fr)(h:AHeap)(n:Nat):laf->Option (List (Nat×AV))
 |[]=>some []
 | t::r=>match A.get t with
  | some v=>match Su h kU n v with
   |some u=>match frzL A h n r with
    |some L=>some ((t,u)::L)
    |none=>none
   |none=>none
  |none=>none
end
mutual
def iF(ids:laf):AV->Bool
 | .ptr id ..=>ja id ids
 | .slice id ..=>ja id ids
 | .sl0 id ..=>ja id ids
 | .map id=>ja id ids
 | .func _ a b=>lh ids a&&lh ids b
 | .iface _ v=>iF ids v
 | .agg cs=>lh ids cs
 | .tuple cs=>lh ids cs
 | .ps xs _=>lh ids xs
 | .pptr xs _ _=>lh ids xs
 |_=>true
def lh(ids:laf):laa->Bool
 |[]=>true
 |x::r=>iF ids x&&lh ids r
end
def yC(ids:laf):laq->Bool
 |[]=>true
 |e::r=>iF ids e.key&&iF ids e.val&&yC ids r
def uv(ids:laf):AObj->Bool
 | .row _ _ _ xs=>lh ids xs
 | .map es _=>yC ids es
 | .miter m _ _=>iF ids m
 |_=>true
def kV(id:Nat):laf->Nat->Nat
 |[],_=>0
 |x::r,i=>match Nat.beq x id with|true=>i|false=>kV id r (i+1)
def gV:laf->Nat->Nat
 |[],_=>0
 |x::r,i=>match i with|0=>x|k+1=>gV r k
noncomputable section
def OB(A:Fr)(ids:laf):laf->Option (List (Nat×AV))
 |[]=>some []
 | t::r=>match A.get t with
  | some v=>match iF ids v with
   |true=>match OB A ids r with
    |some L=>some ((t,ren (λi=>kV i ids 0) v)::L)
    |none=>none
   |false=>none
  |none=>none
def Ae:laf->Bool
 |[]=>true
 |x::r=>!ja x r&&Ae r
def Bj(ids:laf):Nat->Bool
 |0=>true
 |k+1=>Nat.beq (gV ids k) k&&Nat.blt k ids.length&&Bj ids k
end
section
variable{P:Program}{G:fz}{b:lan}{ops:Array Oper}{l:las}{o:Oper}{s s':St}{h h':AHeap}{v:AV}{A A':Fr}{f:FuncId}{args:laa}{c:Code}{n t:Nat}{L:List (Nat×AV)}{pl pl':Pl}{M M':dN}{w w':World}
theorem cV.refl(s:St):cV G b s s:=λ_ _ _ _ _ _ _ _ h=>h
theorem cV.trans{s1 s2 s3:St}(h:cV G b s1 s2)(k:cV G b s2 s3):cV G b s1 s3:=λN h0 pl0 M0 w0 a w hb hs=>k N h0 pl0 M0 w0 a w hb (h N h0 pl0 M0 w0 a w hb hs)
theorem cV.sub(hS:SubSt s' s):cV G b s s':=λ_ _ _ _ _ _ _ _ hs=>hS.now hs
theorem aA.weak{Φ:AExit->St->Prop}(hW:cV G b s s')(h:aA P G b c s' Φ):aA P G b c s Φ:=λN h0 pl0 M0 w0 a w Q hb hs hQ=>h N h0 pl0 M0 w0 a w Q hb (hW N h0 pl0 M0 w0 a w hb hs) hQ
theorem cE.weak{Φ:St->Prop}(hW:cV G b s s')(h:cE P G b ops l s' Φ):cE P G b ops l s Φ:=λi N h0 pl0 M0 w0 a w Q hb hl hs hQ=>h i N h0 pl0 M0 w0 a w Q hb hl (hW N h0 pl0 M0 w0 a w hb hs) hQ
theorem cV.fr(hn:A'.n=A.n)(hF:∀t u,A'.get t=some u->∃v,A.get t=some v/\Le u v):cV G b ⟨A,h⟩ ⟨A',h⟩:=by
 intro N h0 pl0 M0 w0 a w hb ⟨⟨pl,M,g1,g2,g3,g4,g5⟩,k1,k2⟩;refine⟨⟨pl,M,g1,g2,⟨by grind[cases FrRel],g3.defers,λt u ht=>?_⟩,g4,g5⟩,hn.trans k1,k2⟩;obtain⟨v,e1,e2⟩:=hF t u ht;obtain⟨q1,q2⟩:=g3.at_ t v e1;exact⟨by simp_all,e2 _ _ _ q2⟩
theorem cV.put{u:AV}(hs:A.n<=60000)(hv:A.get t=some v)(hl:Le u v)(hp:jU A (some t) u=some A'):cV G b ⟨A,h⟩ ⟨A',h⟩:=by
 have hp':A.put t u=some A':=hp;have hn:A'.n=A.n:=by
  unfold Fr.put at hp';grind
 refine cV.fr hn λt' u' ht=>?_
 obtain⟨_,_,h3⟩:=Fr.get_put hs hp' ht;grind[Le.refl]
theorem Le.elem{xs:laa}{i off:Nat}{x:AV}(hx:jI xs i=some x):Le (.pptr [x] 0 off) (.pptr xs i off):=by
 rw[po]at hx;intro pl M y hy;cases hy with
 | pptr hm hs hi hc=>
  rename_i a sz c;have hle:(i+1)*sz<=xs.length*sz:=e9 _ hi;have:=VRel.pptr (pl:=pl) (M:=M) (xs:=[x]) (i:=0) (off:=off) (a:=⟨a.block,a.off+i*sz,none⟩) (sz:=sz) (c:=c) ⟨rfl,hm.2.1,by
   grind,hm.2.2.2⟩ (λz hz=>by
    grind) (by simp) (λk z j y' hk hj=>by
    grind)
  simp_all
theorem Nu(hr:cS pl M h w){n:Nat}{Md:dN}(hmd:qo M Md)
  (hd:∀id p sz op ep xs c t fr,n<=id->pl id=some p->h.get id=some (.row sz op ep xs)->w.heap[p.blk]?=some (.cells c t fr)->Md p.blk=some c)
  (k:Nat)(v v':AV)(x:Value)(hv:VRel pl M v x)(e:frzP h k n v=some v'):VRel (de pl n) Md v' x:=by
 unfold frzP at e;split at e
 ·rename_i id ep i off;rw[dG]at e;by_cases hid:id<n
  ·simp[hid]at e;subst e;exact hv.agree (n:=n) (by grind[AV.top]) eV hmd
  ·simp only[hid,decide_false]at e;split at e
   ·rename_i sz op ep' xs hgo;split at e
    ·rename_i hck;simp only[aD,dG,ba,decide_eq_true_eq]at hck;obtain⟨rfl,hi⟩:=hck;split at e
     ·rename_i ys hys;cases e
      cases hv with
      | ptr hp he ha=>
       rename_i a p;have ho:=hr.obj id p _ hp hgo;cases hb:w.heap[p.blk]? with
       |none=>grind[bm]
       | some ob=>
        rw[hb]at ho;cases ob<;>simp only[bm]at ho
        rename_i c t fr;obtain⟨g1,g2,g3,g4,g5,g6,g7,g8⟩:=ho;have ha:=ha g1.symm;subst ha;obtain⟨m1,m2⟩:=gx hys;have cells:∀(i:Nat)(x y:AV),xs[i]?=some x->frz h k n x=some y->fj x=true:=by
         intro i x y h1 h2;have he:=(g8.elem x (bC h1)).2;cases x<;>first|rfl|skip
         exact absurd (he _ (by simp[AV.cells];rfl)) (by simp[dq])
        have hfit:=g8.fit;have:=VRel.pptr (pl:=de pl n) (M:=Md) (xs:=ys) (i:=i) (off:=off) (a:=⟨p.blk,0,none⟩) (sz:=p.sz) (c:=c)
         ⟨rfl,hd _ _ _ _ _ _ _ _ _ (by omega) hp hgo hb,by simp_all,by omega⟩ (λy hy=>by
          obtain⟨j,hj⟩:=CM hy;obtain⟨x,k1,k2⟩:=m2 j y hj;have he:=g8.elem x (bC k1);grind[o4]) (by omega) (λj y q u hj hu=>by
          obtain⟨x,k1,k2⟩:=m2 j y hj;have he:=g8.elem x (bC k1);grind[o4,mb,cases InMem])
        simp_all
     grind
    grind
   grind
 grind[mb]
theorem WV(hr:cS pl M h w){n:Nat}{Md:dN}(hmd:qo M Md)
  (hd:∀id p sz op ep xs c t fr,n<=id->pl id=some p->h.get id=some (.row sz op ep xs)->w.heap[p.blk]?=some (.cells c t fr)->Md p.blk=some c)
  (k:Nat)(v v':AV)(x:Value)(hv:VRel pl M v x)(e:Su h k n v=some v'):VRel (de pl n) Md v' x:=by
 unfold Su at e;split at e
 ·split at e
  ·rename_i fn a b a' b' ha hb;cases e
   cases hv with
   |func h1 h2 h3 h4=>
    obtain⟨m1,m2⟩:=gx ha;obtain⟨m3,m4⟩:=gx hb;refine .func (m1▸h1) (m3▸h2) (λj y hj=>?_) (λj y hj=>?_);all_goals grind[mb,Nu]
  grind
 grind[Nu]
theorem ra:∀{ts:laf}{L:List (Nat×AV)},frzL A h n ts=some L->∀t u,(t,u)∈L->∃v,A.get t=some v/\Su h kU n v=some u
 |[],L,e,t,u,hm=>by grind[frzL]
 | x::r,L,e,t,u,hm=>by
  simp only[frzL]at e;split at e
  ·rename_i v hv;split at e
   ·rename_i y hy;split at e
    ·rename_i L' hL;simp at e;subst e;rcases dO.1 hm with k|k
     ·simp_all
     ·exact ra hL t u k
    ·grind
   ·grind
  ·grind
def Plain(h:AHeap)(n:Nat)(v u:AV):Prop:=∀(pl:Pl)(M Md:dN)(w:World)(x:Value),cS pl M h w->qo M Md->
 (∀id p sz op ep xs c t fr,n<=id->pl id=some p->h.get id=some (.row sz op ep xs)->w.heap[p.blk]?=some (.cells c t fr)->Md p.blk=some c)->VRel pl M v x->VRel (de pl n) Md u x
theorem Plain.frz{h:AHeap}{n k:Nat}{v u:AV}(e:Su h k n v=some u):Plain h n v u:=λ_ _ _ _ x hr hmd hd hv=>WV hr hmd hd k v u x hv e
theorem Plain.slice{h:AHeap}{n id ep off len sz:Nat}{cap:lan}{op:Bool}{xs ys:laa}(hgo:h.get id=some (.row sz op ep xs))(hid:n<=id)(hy:(xs.drop off).take len=ys)(ht:az ys=0):
  Plain h n (.slice id ep off len cap) (.ps ys (oI cap (some len))):=by
 intro pl M Md w x hr hmd hd hv;cases hv with
 | slice hp hle hl hk ha=>
  rename_i cap' a p;have ho:=hr.obj id p _ hp hgo;cases hb:w.heap[p.blk]? with
  |none=>grind[bm]
  | some ob=>
   rw[hb]at ho;cases ob<;>simp only[bm]at ho
   rename_i c t fr;obtain⟨g1,g2,g3,g4,g5,g6,g7,g8⟩:=ho;obtain⟨q1,q2,q3,q4,q5⟩:=ha (by omega);have hlen:ys.length=len:=by grind
   have src:∀(i:Nat)(y:AV),ys[i]?=some y->xs[off+i]?=some y/\i<len:=by grind
   have hys0:ys≠[]->a=⟨p.blk,off*p.sz,none⟩:=by
    intro hne;rcases q1 with hc0|hc1
    all_goals simp_all
   have hfit:off*p.sz+ys.length*p.sz<=c.size:=by
    rw[<-g4]
    calc off*p.sz+ys.length*p.sz=(off+ys.length)*p.sz:=by grind
     _<=(off+cap')*p.sz:=e9 _ (by omega)
     _<=p.tot:=q2
   rw[<-hlen];refine VRel.ps (sz:=p.sz) (c:=c) (by omega) (λht=>?_) (λhne=>?_) (λy hy=>?_) (λi y j u hi hu=>?_)
   ·cases cap with
    |none=>grind[oI]
    |some cc=>grind[oI,aD]
   ·grind
   ·grind[cases InMem]
   ·have hne:ys≠[]:=λh0=>by simp_all
    rw[hys0 hne];obtain⟨k1,k2⟩:=src i y hi;have hz:=g8.cell _ _ j u k1 hu;have htop:u.top<=n:=b0 (ly (dS.1 (uj ht) y (bC hi)) (bC hu)) (b6 _);have:=hz.agree htop eV hmd;grind
theorem cV.frzP(hG:jK G){m k:Nat}{L:List (Nat×AV)}(hm:m<=k)(hk:k<=s.heap.n)(hc:fH s.heap k k=true)(e:∀t u,(t,u)∈L->∃v,s.tmps.get t=some v/\Plain s.heap k v u):cV G (some m) s ⟨eh s.tmps.n L,s.heap.cut k⟩:=by
 intro N h0 pl0 M0 w0 a w hb ⟨⟨pl,M,g1,g2,g3,g4,g5⟩,k1,k2⟩;obtain⟨b1,b2⟩:=hb m rfl;have hlow:∀id p,pl0 id=some p->id<k:=λid p hp=>CI (b2 id p hp) hm
 refine⟨⟨de pl k,l8 pl M w k,(g1.none hG).mono (nS.refl _) (fO k),g2.dropped hk (λid o q1 q2=>gm k hc id o q1 q2),⟨g3.size,g3.defers,λt u ht=>?_⟩,⟨?_,?_,?_,g4.size,g4.kept,?_,?_,?_,?_,g4.os,g4.tape,g4.out,g4.drawn⟩,by show h0.n<=k;omega⟩,k1,k2⟩
 ·obtain⟨v,q1,q2⟩:=e t u (uT ht);obtain⟨q3,q4⟩:=g3.at_ t v q1;exact⟨q3,q2 _ _ _ _ _ g2 (fO k) (λid p sz op ep xs c t fr z1 z2 _ z4=>o9 g2 z1 z2 z4) q4⟩
 ·intro id p hp;obtain⟨p',q1,q2⟩:=g4.ext id p hp;exact⟨p',aR.2 ⟨hlow id p hp,q1⟩,q2⟩
 ·intro id hid hp;have:=g4.new id hid hp;cases hcp:de pl k id with
  |none=>rfl
  |some q=>rw[(aR.1 hcp).2]at this;omega
 ·exact λb c hb=>fO k b c (g4.mem b c hb)
 ·exact λid p' hp'=>g4.blks id p' (aR.1 hp').2
 ·intro id p hp hg;have:=g4.live id p hp hg;cases hcp:(s.heap.cut k).get id with
  |none=>rfl
  |some o=>grind[iE]
 ·exact λid p hp hg=>aR.2 ⟨hlow id p hp,g4.stay id p hp hg⟩
 ·intro b c hb;rcases jZ hb with q|⟨⟨id,p,q1,q2,q3⟩,_⟩
  ·exact g4.memNew b c q
  ·rcases g4.blks id p q2 with⟨p0,q4,_⟩|q4
   all_goals grind
theorem cV.frz(hG:jK G){m k:Nat}{ts:laf}(hm:m<=k)(hk:k<=s.heap.n)(hc:fH s.heap k k=true)(e:frzL s.tmps s.heap k ts=some L):cV G (some m) s ⟨eh s.tmps.n L,s.heap.cut k⟩:=cV.frzP hG hm hk hc λt u h=>by grind[ra,Plain.frz]
theorem RK{ids:laf}{id:Nat}(i:Nat)(h:ja id ids=true):i<=kV id ids i/\gV ids (kV id ids i-i)=id/\kV id ids i-i<ids.length:=by
 induction ids generalizing i with
 |nil=>grind[ja]
 | cons x r ih=>
  simp only[ja,oh]at h;simp only[kV];cases hb:Nat.beq x id with
  |true=>simp_all[gV]
  |false=>
   rcases h with h|h
   ·grind
   ·obtain⟨k1,k2,k3⟩:=ih (i+1) h;simp only[];refine⟨by omega,?_,by grind⟩;rw[show kV id r (i+1)-i=(kV id r (i+1)-(i+1))+1 by omega];exact k2
theorem uG{ids:laf}{id:Nat}(h:ja id ids=true):kV id ids 0<ids.length/\gV ids (kV id ids 0)=id:=by grind[RK]
mutual
theorem oD{ids:laf}:∀(v:AV),iF ids v=true->ren (gV ids) (ren (λi=>kV i ids 0) v)=v/\(ren (λi=>kV i ids 0) v).top<=ids.length
 | .ptr id ..,h=>by simp only[iF]at h;obtain⟨h1,h2⟩:=uG h;exact⟨by simp only[ren,h2],by simp only[ren,AV.top];omega⟩
 | .slice id ..,h=>by simp only[iF]at h;obtain⟨h1,h2⟩:=uG h;exact⟨by simp only[ren,h2],by simp only[ren,AV.top];omega⟩
 | .sl0 id ..,h=>by simp only[iF]at h;obtain⟨h1,h2⟩:=uG h;exact⟨by simp only[ren,h2],by simp only[ren,AV.top];omega⟩
 | .map id,h=>by simp only[iF]at h;obtain⟨h1,h2⟩:=uG h;exact⟨by simp only[ren,h2],by simp only[ren,AV.top];omega⟩
 | .func fn a b,h=>by
  simp only[iF,ba]at h;obtain⟨k1,k2⟩:=kW a h.1;obtain⟨q1,q2⟩:=kW b h.2;exact⟨by simp only[ren,k1,q1],by simp only[ren,AV.top];exact rU.2 ⟨k2,q2⟩⟩
 | .iface t v,h=>by simp only[iF]at h;obtain⟨k1,k2⟩:=oD v h;exact⟨by simp only[ren,k1],by simpa only[ren,AV.top]using k2⟩
 | .agg cs,h=>by simp only[iF]at h;obtain⟨k1,k2⟩:=kW cs h;exact⟨by simp only[ren,k1],by simpa only[ren,AV.top]using k2⟩
 | .tuple cs,h=>by simp only[iF]at h;obtain⟨k1,k2⟩:=kW cs h;exact⟨by simp only[ren,k1],by simpa only[ren,AV.top]using k2⟩
 | .ps xs t,h=>by simp only[iF]at h;obtain⟨k1,k2⟩:=kW xs h;exact⟨by simp only[ren,k1],by simpa only[ren,AV.top]using k2⟩
 | .pptr xs i o,h=>by simp only[iF]at h;obtain⟨k1,k2⟩:=kW xs h;exact⟨by simp only[ren,k1],by simpa only[ren,AV.top]using k2⟩
 | .ls xs,_=>⟨rfl,b6 _⟩
 | .bool b,_=>⟨rfl,b6 _⟩
 | .int k n,_=>⟨rfl,b6 _⟩
 | .str s,_=>⟨rfl,b6 _⟩
 | .nilp,_=>⟨rfl,b6 _⟩
 | .nils,_=>⟨rfl,b6 _⟩
 | .nilm,_=>⟨rfl,b6 _⟩
 | .nilf,_=>⟨rfl,b6 _⟩
 | .nili,_=>⟨rfl,b6 _⟩
theorem kW{ids:laf}:∀(vs:laa),lh ids vs=true->mw (gV ids) (mw (λi=>kV i ids 0) vs)=vs/\az (mw (λi=>kV i ids 0) vs)<=ids.length
 |[],_=>⟨rfl,b6 _⟩
 |x::r,h=>by
  simp only[lh,ba]at h;obtain⟨k1,k2⟩:=oD x h.1;obtain⟨q1,q2⟩:=kW r h.2;exact⟨by simp only[mw,k1,q1],by simp only[mw,az];exact rU.2 ⟨k2,q2⟩⟩
end
theorem DK{ids:laf}:∀(es:laq),yC ids es=true->ko (gV ids) (ko (λi=>kV i ids 0) es)=es/\ce (ko (λi=>kV i ids 0) es)<=ids.length
 |[],_=>⟨rfl,b6 _⟩
 |e::r,h=>by
  simp only[yC,ba]at h;obtain⟨k1,k2⟩:=oD e.key h.1.1;obtain⟨z1,z2⟩:=oD e.val h.1.2;obtain⟨q1,q2⟩:=DK r h.2;exact⟨by simp_all[ko],by simp only[ko,ce];exact rU.2 ⟨rU.2 ⟨k2,z2⟩,q2⟩⟩
theorem OA{ids:laf}(o:AObj)(h:uv ids o=true):kn (gV ids) (kn (λi=>kV i ids 0) o)=o/\(kn (λi=>kV i ids 0) o).top<=ids.length:=by
 cases o with
 |row a b c xs=>grind[uv,kW,kn,AObj.top]
 |map es c=>grind[uv,DK,kn,AObj.top]
 |dead=>exact⟨rfl,b6 _⟩
 |siter s p=>exact⟨rfl,b6 _⟩
 |miter m c s=>grind[uv,oD,kn,AObj.top]
theorem G1{ids:laf}:∀{ts:laf}{L:List (Nat×AV)},OB A ids ts=some L->∀t u,(t,u)∈L->∃v,A.get t=some v/\iF ids v=true/\u=ren (λi=>kV i ids 0) v
 |[],L,e,t,u,hm=>by grind[OB]
 | x::r,L,e,t,u,hm=>by
  simp only[OB]at e;split at e
  ·rename_i v hv;split at e
   ·rename_i hw;split at e
    ·rename_i L' hL;simp at e;subst e;rcases dO.1 hm with k|k
     ·simp_all
     ·exact G1 hL t u k
    ·grind
   ·grind
  ·grind
theorem HH:∀{ids:laf}{i:Nat},i<ids.length->ids[i]?=some (gV ids i)
 |x::r,0,_=>rfl
 |x::r,i+1,h=>by simpa[gV]using HH (ids:=r) (i:=i) (by simp_all)
theorem r8:∀{ids:laf},Ae ids=true->∀i j,i<ids.length->j<ids.length->gV ids i=gV ids j->i=j
 | x::r,h,i,j,hi,hj,e=>by
  simp only[Ae,ba,Bool.not_eq_true']at h;have hx:∀k,k<r.length->gV r k≠x:=by
   intro k hk e;have:=bC (HH hk);rw[e]at this;have:=oS.2 this;simp_all
  cases i with
  |zero=>cases j with
   |zero=>rfl
   |succ j=>exact absurd e.symm (hx j (by simp_all))
  |succ i=>cases j with
   |zero=>exact absurd e (hx i (by simp_all))
   |succ j=>have:=r8 h.2 i j (by simp_all) (by simp_all) e;omega
theorem DI{ids:laf}:∀{m:Nat},Bj ids m=true->∀i,i<m->gV ids i=i/\i<ids.length
 |0,_,i,hi=>by omega
 |k+1,h,i,hi=>by
  simp only[Bj,ba,aD,dG,decide_eq_true_eq]at h;by_cases e:i=k
  ·simp_all
  ·exact DI h.2 i (by omega)
theorem QW(hG:jK G){m:Nat}{ids ts:laf}{os:lai}(h1:Ae ids=true)(h2:Bj ids m=true)(e1:OB s.tmps ids ts=some L)(o1:os.length=ids.length)
  (o2:∀(j:Nat)(o':AObj),os[j]?=some o'->∃o,s.heap.get (gV ids j)=some o/\kn (gV ids) o'=o/\o'.top<=ids.length):
  cV G (some m) s ⟨eh s.tmps.n L,aw os⟩:=by
 intro N h0 pl0 M0 w0 a w hb ⟨⟨pl,M,g1,g2,g3,g4,g5⟩,k1,k2⟩;obtain⟨b1,b2⟩:=hb m rfl;have hm:∀i,i<m->gV ids i=i/\i<ids.length:=DI h2;have hlen:(aw os).n=ids.length:=o1;have some_:∀{id p},kJ (gV ids) ids.length pl id=some p->id<ids.length/\pl (gV ids id)=some p:=by grind[kJ]
 have low:∀{id p},pl0 id=some p->∀{q},pl id=some q->kJ (gV ids) ids.length pl id=some q:=by grind[kJ]
 have blk:∀{id p'},kJ (gV ids) ids.length pl id=some p'->(∃p,pl0 id=some p/\p.blk=p'.blk)\/w0.heap.size<=p'.blk:=by
  intro id p' hp;obtain⟨q1,q2⟩:=some_ hp;rcases g4.blks _ p' q2 with⟨p0,y1,y2⟩|y
  all_goals grind[r8]
 refine⟨⟨kJ (gV ids) ids.length pl,M,g1.none hG,⟨λid p hp=>by simp_all,λid p o hp hg=>?_,λid p hp=>g2.blk _ p (some_ hp).2,λid id' p p' q1 q2 e=>r8 h1 id id' (some_ q1).1 (some_ q2).1 (g2.inj _ _ p p' (some_ q1).2 (some_ q2).2 e),g2.imm,λid p hp=>g2.sep _ p (some_ hp).2⟩,
  ⟨g3.size,g3.defers,λt u ht=>?_⟩,⟨λid p hp=>?_,λid hid hp=>?_,g4.mem,g4.size,g4.kept,λid p hp=>blk hp,λid p hp hg=>?_,λid p hp hg=>low hp (g4.stay id p hp hg),g4.memNew,g4.os,g4.tape,g4.out,g4.drawn⟩,?_⟩,k1,k2⟩
 ·obtain⟨q1,q2⟩:=some_ hp;obtain⟨o',y1,z1,z2⟩:=o2 id o (oQ hg);exact bm.ren (ρ:=gV ids) (by rw[z1];exact g2.obj _ p _ q2 y1) z2
 ·obtain⟨v,q1,q2,q3⟩:=G1 e1 t u (uT ht);subst q3;obtain⟨z1,z2⟩:=oD v q2;obtain⟨q3,q4⟩:=g3.at_ t v q1;exact⟨q3,q4.ren z1.symm z2⟩
 ·obtain⟨p',q1,q2⟩:=g4.ext id p hp;simp_all
 ·have hid':id<m:=by omega
  have:=g4.new id hid hp;cases hr:kJ (gV ids) ids.length pl id with
  |none=>rfl
  |some q=>grind
 ·have hk:=g4.live id p hp hg;cases hr:(aw os).get id with
  |none=>rfl
  |some o=>
   obtain⟨o',y1,_⟩:=o2 id o (oQ hr);grind
 grind
theorem sN(ρ:Nat->Nat):∀(es:laq),ce es=0->ko ρ es=es
 |[],_=>rfl
 |e::r,h=>by
  simp only[ce]at h;have h1:=sX h;have h2:=sX h1.1;simp_all[ko,iC,sN]
theorem JR(ρ:Nat->Nat)(o:AObj)(h:o.top=0):kn ρ o=o:=by
 cases o with
 |row a b c xs=>grind[AObj.top,kn,fk]
 |map es c=>grind[AObj.top,kn,sN]
 |dead=>rfl
 |siter s p=>rfl
 |miter m c s=>grind[AObj.top,kn,iC]
theorem QJ(hG:jK G){m k:Nat}{ts:laf}{os:lai}{t id ep off len sz:Nat}{cap:lan}{op:Bool}{xs ys:laa}(hm:m<=k)(hk:k<=s.heap.n)(hc:fH s.heap k k=true)(e:Ev.frzL s.tmps s.heap k ts=some L)(eo:eF s.heap k 0=some os)
  (et:s.tmps.get t=some (.slice id ep off len cap))(hid:k<=id)(hg:s.heap.get id=some (.row sz op ep xs))(hy:(xs.drop off).take len=ys)(ht:az ys=0):
  cV G (some m) s ⟨eh s.tmps.n ((t,.ps ys (oI cap (some len)))::L),aw os⟩:=by
 refine cV.trans (cV.frzP (L:=(t,.ps ys (oI cap (some len)))::L) hG hm hk hc λt' u h=>?_) (cV.sub ⟨rfl,λ_ _ h=>h,?_,λid o hh=>?_⟩)
 ·grind[Plain.slice,ra,Plain.frz]
 ·obtain⟨k1,_⟩:=ez _ _ _ eo;show k<=(aw os).n
  grind[aw]
 ·obtain⟨k1,k2⟩:=ez _ _ _ eo;have h1:=oQ hh;have h2:=k2 id o h1;have hlt:id<k:=by grind
  rw[fx,AHeap.get_some]at h2;exact AHeap.get_some.2 ⟨hlt,h2.2.1,h2.2.2⟩
theorem cV.frzL(hG:jK G){m k:Nat}{ts:laf}{os:lai}(hm:m<=k)(hk:k<=s.heap.n)(hc:fH s.heap k k=true)(e:Ev.frzL s.tmps s.heap k ts=some L)(eo:eF s.heap k 0=some os):
  cV G (some m) s ⟨eh s.tmps.n L,aw os⟩:=by
 refine cV.trans (cV.frz hG hm hk hc e) (cV.sub ⟨rfl,λ_ _ h=>h,?_,λid o hh=>?_⟩)
 ·obtain⟨k1,_⟩:=ez _ _ _ eo;show k<=(aw os).n
  grind[aw]
 ·obtain⟨k1,k2⟩:=ez _ _ _ eo;have h1:=oQ hh;have h2:=k2 id o h1;have hlt:id<k:=by grind
  rw[fx,AHeap.get_some]at h2;exact AHeap.get_some.2 ⟨hlt,h2.2.1,h2.2.2⟩
theorem cV.psh{b:lan}{o:AObj}:cV G b s ⟨s.tmps,s.heap.push o⟩:=by
 intro N h0 pl0 M0 w0 a w hb ⟨⟨pl,M,g1,g2,g3,g4,g5⟩,k1,k2⟩;refine⟨⟨pl,M,g1,⟨λid p hp=>Nat.lt_succ_of_lt (g2.dom id p hp),λid p o' hp hg=>?_,g2.blk,g2.inj,g2.imm,g2.sep⟩,g3,⟨g4.ext,g4.new,g4.mem,g4.size,g4.kept,g4.blks,λid p hp hg=>?_,g4.stay,g4.memNew,g4.os,g4.tape,g4.out,g4.drawn⟩,Nat.le_succ_of_le g5⟩,k1,k2⟩
 ·rcases dh hg with⟨rfl,_⟩|⟨_,h2⟩
  ·exact absurd (g2.dom _ p hp) (xz _)
  ·exact g2.obj id p o' hp h2
 ·have:=g4.live id p hp hg;cases hh:(s.heap.push o).get id with
  |none=>rfl
  |some o'=>
   rcases dh hh with⟨rfl,_⟩|⟨_,h2⟩
   ·obtain⟨p',e1,_⟩:=g4.ext _ p hp;exact absurd (g2.dom _ p' e1) (xz _)
   simp_all
theorem Le.sl0{id ep len:Nat}{cap:lan}:Le (.sl0 id ep len cap) (.slice id ep 0 len cap):=λ_ _ _ h=>.sl0s h
theorem F4{id ep:Nat}{cap:lan}:Le (.sl0 id ep 0 cap) (.ls []):=λ_ _ _ h=>.sl0n h
theorem Le.sl0n{id ep:Nat}{cap:lan}:Le (.sl0 id ep 0 cap) .nils:=Le.trans F4 Le.nils
theorem cV.val{b:lan}{t:Nat}{v u:AV}{A':Fr}(hs:s.tmps.n<=60000)(hv:s.tmps.get t=some v)(hl:∀(pl:Pl)(M:dN)(x:Value),VRel pl M v x->VRel pl M u x)(hp:jU s.tmps (some t) u=some A'):cV G b s ⟨A',s.heap⟩:=cV.put (A:=s.tmps) (h:=s.heap) hs hv hl hp
theorem Plain.sl0{h:AHeap}{n id ep len sz:Nat}{cap:lan}{op:Bool}{xs ys:laa}(hgo:h.get id=some (.row sz op ep xs))(hid:n<=id)(hy:(xs.drop 0).take len=ys)(ht:az ys=0):
  Plain h n (.sl0 id ep len cap) (.ls ys):=by
 intro pl M Md w x hr hmd hd hv;cases hv with
 |sl0s hv=>exact .lsp (Plain.slice hgo hid hy ht pl M Md w x hr hmd hd hv).loose ht
 |sl0n hv=>
  rw[List.take_zero]at hy;subst hy;exact hv.agree (n:=n) (b6 _) eV hmd
noncomputable def Dr(A:Fr):laf->Option (List (Nat×AV))
 |[]=>some []
 |t::r=>match A.get t,Dr A r with
  |some v,some L=>some ((t,v)::L)
  |_,_=>none
noncomputable def Hd(A:Fr)(k:Nat):laf->Prop
 |[]=>True
 |t::r=>(match A.get t with|some v=>v.top<=k|none=>False)/\Hd A k r
theorem Dp{A:Fr}{k:Nat}:∀{ts:laf}{L:List (Nat×AV)},Dr A ts=some L->Hd A k ts->∀t u,(t,u)∈L->A.get t=some u/\u.top<=k
 |[],L,e,_,t,u,h=>by grind[Dr]
 | x::r,L,e,hl,t,u,h=>by
  simp only[Dr]at e;simp only[Hd]at hl;split at e
  ·rename_i v L' hv hL;cases e
   rw[hv]at hl;rcases dO.1 h with h|h
   ·simp_all
   ·exact Dp hL hl.2 t u h
  grind
theorem cV.frl(hG:jK G){m k:Nat}{ts ls:laf}{K:List (Nat×AV)}{os:lai}(hm:m<=k)(hk:k<=s.heap.n)(hc:fH s.heap k k=true)(e:Ev.frzL s.tmps s.heap k ts=some L)(eK:Dr s.tmps ls=some K)(hl:Hd s.tmps k ls)(eo:eF s.heap k 0=some os):
  cV G (some m) s ⟨eh s.tmps.n (K++L),aw os⟩:=by
 refine cV.trans (cV.frzP (L:=K++L) hG hm hk hc λt' u h=>?_) (cV.sub ⟨rfl,λ_ _ h=>h,?_,λid o hh=>?_⟩)
 ·rcases ie.1 h with h|h
  ·obtain⟨q1,q2⟩:=Dp eK hl t' u h;exact⟨u,q1,λpl M Md w x hr hmd _ hv=>hv.agree q2 eV hmd⟩
  grind[ra,Plain.frz]
 ·obtain⟨k1,_⟩:=ez _ _ _ eo;show k<=(aw os).n
  grind[aw]
 ·obtain⟨k1,k2⟩:=ez _ _ _ eo;have h1:=oQ hh;have h2:=k2 id o h1;have hlt:id<k:=by grind
  rw[fx,AHeap.get_some]at h2;exact AHeap.get_some.2 ⟨hlt,h2.2.1,h2.2.2⟩
theorem LB{u:AV}{Φ:St->Prop}(hg:eO s.tmps (eL ops o)=some true)(e:(fc P G o.op).run s.tmps s.heap=some (.val v h'))(hl:Le u v)(hp:jU s.tmps o.dst u=some A')(h:cE P G b ops l ⟨A',h'⟩ Φ):cE P G b ops (o::l) s Φ:=by
 intro i N h0 pl0 M0 w0 a w Q hb hl' hs hQ;have ho:ops[i]?=some o:=by simpa using hl' 0
 obtain⟨pl,M,g1,g2,g3,g4,g5⟩:=hs.ex;simp only[dw,CL,wpOps,ho];rw[fN g3 hg];simp only[if_true];left;obtain⟨dst,op,ty,pos,after,guard⟩:=o;obtain⟨pl',M',cv,w',nx,q1,q2,q3,q4,q5,q6⟩:=Af (P:=P) (G:=G) op pl M s.tmps s.heap v h' a w dst ty pos after guard g1 g2 g3 e;obtain⟨p1,p2⟩:=n8 (g3.mono q5.ext q5.mem) (hl _ _ _ q3) (by rw[hs.n];exact hs.small) hp;have key:SNow G N h0 pl0 M0 w0 ⟨A',h'⟩ (a.put dst cv) w':=⟨⟨pl',M',g1.mono q5.ext q5.mem,q4,p1,g4.trans q5 g5,b0 g5 q6⟩,by rw[<-hs.n];omega,hs.small⟩
 have nxt:=h (i+1) N h0 pl0 M0 w0 _ w' Q hb (λj=>by have:=hl' (j+1);grind) key hQ;unfold Oper.wp;rw[q1];rcases q2 with rfl|⟨rfl,rfl⟩
 ·exact nxt
 ·exact nxt
theorem DSpec.effS{F:Fr}{h1:AHeap}(hg:eO ⟨F.n,b7 F (o.looksAt ops) .nil⟩ (eL ops o)=some true)(e:(fc P G o.op).run ⟨F.n,b7 F (o.looksAt ops) .nil⟩ h=some (.call f args))
  (ht:iT F h.n (o.looksAt ops)=true)(ho:∀id o',h.get id=some o'->o'.top<=h.n)(hle:h.n<=h1.n)(hsame:∀id,id<h.n->h1.get id=h.get id)(hf:aO P G f args h (λv1 h2=>v1=v/\h2=h1)):
  DSpec P G ops o (o.looksAt ops) F h v h1 ⟨⟨true,[],h.n,h.n⟩,⟨false,[],h.n,h1.n⟩⟩:=by
 refine⟨hle,λid o' hno hg1=>?_,λid k1 k2=>.inr (.inr ⟨k1,k2⟩),?_⟩
 ·have hlt:=(AHeap.get_some.1 hg1).1;rcases fg id h.n with k|k
  ·simp_all
  ·exact absurd (.inr (.inr ⟨k,hlt⟩)) hno
 ·intro nk n0 g pl M a w K Q hn0 hnk hbig hr hvis hU hG hs hdf hF hK;have hf0:FrRel pl M ⟨F.n,b7 F (o.looksAt ops) .nil⟩ a:=iw hs hdf hF;rw[fN hf0 hg];simp only[if_true];left;have hvg:∀id o,h.get id=some o->g id=some o:=λid o' hh=>hvis id o' (.inl ⟨rfl,(AHeap.get_some.1 hh).1⟩) hh
  have hfr:=ru (M:=M) hs hdf ht hF;let W:Nat->Prop:=λid=>h.n<=id/\id<h1.n
  refine xl (W:=W) hr (ar _) hvg ho hfr hG e hf (.inr hnk) hU (λid k1 k2 k3=>hsame id k1) (λid k1 k2=>?_) (λid k1=>k1.2) (λid k1 k2=>⟨k1,k2⟩) ?_
  ·omega
  ·intro cv w' pl' M' r1 r2 r3 r4 r5;refine hK cv w' pl' M' _ r1 (r2.weaken hn0) r3 r4 (λid hp hh=>?_) (λid hno=>iz λhW=>?_) (λid o' hyes hg1=>?_)
   ·rcases hh with hh|hh
    ·exact r2.new id hh hp
    simp_all
   ·exact hno (.inr (.inr hW))
   ·have hW:W id:=by
     rcases hyes with⟨k1,k2⟩|k|k
     all_goals grind
    grind[mN]
theorem DSpec.eff{F:Fr}{h1:AHeap}(hg:eO ⟨F.n,b7 F (o.looksAt ops) .nil⟩ (eL ops o)=some true)(e:(fc P G o.op).run ⟨F.n,b7 F (o.looksAt ops) .nil⟩ h=some (.call f args))
  (ht:iT F h.n (o.looksAt ops)=true)(ho:∀id o',h.get id=some o'->o'.top<=h.n)(hle:h.n<=h1.n)(hfew:∀id,id<h.n->h.get id=none->h1.get id=none)(hf:aO P G f args h (λv1 h2=>v1=v/\h2=h1)):
  DSpec P G ops o (o.looksAt ops) F h v h1 ⟨⟨true,[],h.n,h.n⟩,⟨true,[],h.n,h1.n⟩⟩:=by
 refine⟨hle,λid o' hno hg1=>?_,λid k1 k2=>.inr (.inr ⟨k1,k2⟩),?_⟩
 ·have hlt:=(AHeap.get_some.1 hg1).1;rcases fg id h.n with k|k
  ·exact absurd (.inl ⟨rfl,k⟩) hno
  ·exact absurd (.inr (.inr ⟨k,hlt⟩)) hno
 ·intro nk n0 g pl M a w K Q hn0 hnk hbig hr hvis hU hG hs hdf hF hK;have hf0:FrRel pl M ⟨F.n,b7 F (o.looksAt ops) .nil⟩ a:=iw hs hdf hF;rw[fN hf0 hg];simp only[if_true];left;have hvg:∀id o,h.get id=some o->g id=some o:=λid o' hh=>hvis id o' (.inl ⟨rfl,(AHeap.get_some.1 hh).1⟩) hh
  have hfr:=ru (M:=M) hs hdf ht hF;let W:Nat->Prop:=λid=>(id<h.n/\h.get id≠none)\/(h.n<=id/\id<h1.n)
  refine xl (W:=W) hr (ar _) hvg ho hfr hG e hf (.inr hnk) hU (λid k1 k2 k3=>absurd (.inl ⟨k1,k3⟩) k2) (λid k1 k2=>?_) (λid k1=>?_) (λid k1 k2=>.inr ⟨k1,k2⟩) ?_
  ·grind
  ·omega
  ·intro cv w' pl' M' r1 r2 r3 r4 r5;refine hK cv w' pl' M' _ r1 (r2.weaken hn0) r3 r4 (λid hp hh=>?_) (λid hno=>iz λhW=>?_) (λid o' hyes hg1=>?_)
   ·rcases hh with hh|hh
    ·exact r2.new id hh hp
    simp_all
   ·rcases hW with⟨k1,k2⟩|k
    ·exact hno (.inl ⟨rfl,k1⟩)
    ·exact hno (.inr (.inr k))
   ·have hW:W id:=by
     rcases hyes with⟨k1,k2⟩|k|k
     all_goals grind
    grind[mN]
theorem cE.skip{Φ:St->Prop}(hg:eO s.tmps (eL ops o)=some false)(hp:jU s.tmps o.dst gh=some A')(h:cE P G b ops l ⟨A',s.heap⟩ Φ):cE P G b ops (o::l) s Φ:=by
 refine cE.one (call:=Am) Df ?_ h;grind[zG,bR,fin]
end
end Go.Ev
