/- Functions walked: what each of them answers, for On every day that a gazette changed, an item that the gazette contains or refers to is in force before or after it, or the gazette declares an event: part 2. Conditions: those that each theorem names. -/
import Derived.Test.YtaepacpodblomaaGreatDoorH1
namespace Go.Proofs.YtaepacpodblomaaGreatDoor
open Go Go.Ev
noncomputable def BA(most n:Int)(a:PAct):Bool:=aF most (n+Int.ofNat a.items.length)||(aF 100 (Int.ofNat a.title.length)||(aF 60 (Int.ofNat a.start.event.length)||ak (a.items.all m7)))
noncomputable def mY(most:Int):List PAct→Int→Option Int
  |[],n=>some n
  |a::r,n=>match BA most n a with|true=>none|false=>mY most r (n+Int.ofNat a.items.length)
noncomputable def wz(g:PGaz):Bool:=aF 8 (Int.ofNat g.acts.length)||aF 60 (Int.ofNat g.prior.length)
noncomputable def uG(most:Int):List PGaz→Int→Bool
  |[],_=>true
  |g::r,n=>match wz g with|true=>false|false=>match mY most g.acts n with|none=>false|some m=>uG most r m
noncomputable def Oy(gs:List PGaz)(most:Int):Bool:=match aF 8 (Int.ofNat gs.length)with|true=>false|false=>uG most gs 0
theorem Vx(gs:List PGaz)(most:Int)(hf:pH gs)(m1:0≤most)(m2:most≤2^20):kP 39 [.ls (gs.map aa),iV most] (.bool (Oy gs most)):=by
  obtain⟨f0,f1⟩:=hf
  have fa:∀g,g∈gs→∀a,a∈g.acts→a.items.length<2^60:=fun g hg a ha=>((f1 g hg).2 a ha).1
  have fb:∀g,g∈gs→g.acts.length<2^60:=fun g hg=>(f1 g hg).1
  have rr0 b' (h:(Oy gs most)=b':=by simp only[Oy,uG,wz,mY,BA,aS,ak,bS, *]):=h;exact bG Tryz.func39<|Kl 2 11 (ln aa gs)<|Ka 0 8 (Int.ofNat gs.length) (fun _ _=>Ky 0<|rr0 false) fun _ _=>Mg 1<|PJ aa gs (0:Int) [0,1,5,6] (fun b _ c=>([aW<|gs.map aa,iV most,iV c,nV b],[])) (fun b c=>(0:Int)≤c∧c≤most∧uG most gs (0:Int)=uG most b c) (by(refine⟨by omega,by omega,?_⟩;first|rfl|(simp only[uG,wz,mY,aS,ak,bS, *]))) (fun _ _ _ _ _ _ b _=>Kl 2 15 (ln aa gs)<|Kh 0 b<|Ky 0<|rr0 true) fun b _ c d _ e f i j k _ l m=>Kl 2 15 (ln aa gs)<|Kt 0 k<|Kx 1 l<|Kl 2 24 (ln ay e.acts)<|Ka 1 8 (Int.ofNat e.acts.length) (fun b _=>Mt b<|Mt b<|Mt b<|Mt b<|Mt b<|Mt b<|MV b<|Ky 1<|rr0 false) fun k _=>Kh 0 k<|Kh 0 k<|Mx l<|Mh k<|Kh 0 k<|Kh 0 k<|Kh 0 k<|Kw 0 k<|Mb (aF 60<|Int.ofNat<|List.length e.prior) (fun b=>have:=ar b;Ky 0<|rr0 false) fun k=>have:=aG k;Mg 0<|PJ ay e.acts c [0,1,5,6,7] (fun c _ d=>([aW<|gs.map aa,iV most,iV d,nV b,nV c],[])) (fun b d=>(0:Int)≤d∧d≤most∧mY most e.acts c=mY most b d) (by(exact⟨m.1,m.2.1,rfl⟩)) (fun _ _ c _ _ _ d _=>Kx 2 l<|Kl 2 41 (ln ay e.acts)<|Kh 0 d<|Kl 1 18 (dV b)<|Kf 0<|i c<|by(refine⟨by omega,by omega,?_⟩;first|rfl|(simp only[uG,wz,mY,aS,ak,bS, *]))) fun f _ i k _ m n o p q _ r _=>have:=fa e (bX d j) m<|bX k p;have:=fb e<|bX d j;Kx 2 l<|Kl 2 41 (ln ay e.acts)<|Kt 0 q<|Kx 1 l<|Kx 2 r<|Kl 6 56 (ln Og m.items)<|Kl 0 57 (Le.wr (x:=i+Int.ofNat m.items.length) fJ)<|Ka 4 most (i+Int.ofNat m.items.length) (fun b _=>Mt b<|Mt b<|Mt b<|MV b<|Ky 3<|rr0 false) fun l _=>Kh 0 l<|Kh 0 l<|Kh 0 l<|Kw 0 l<|Ka 0 100 (Int.ofNat<|List.length m.title) (fun b _=>Mt b<|Mt b<|Mt b<|Mt b<|MV b<|Ky 1<|rr0 false) fun l _=>Kh 0 l<|Kh 0 l<|Kh 0 l<|Kh 0 l<|Kw 0 l<|Mb (aF 60<|Int.ofNat<|List.length m.start.event) (fun b=>have:=ar b;Ky 0<|rr0 false) fun l=>have:=aG l;K1 0 (.frz 0 [0,1,5,6,7,8,9]) ti<|tu Og m.items [0,1,5,6,7,8,9] (fun c _=>([aW<|gs.map aa,iV most,iV<|i+Int.ofNat m.items.length,nV b,nV f,AV.pptr [ax [iV m.number,aV m.title,iV m.day,iV m.start.kind,iV m.start.day,aV m.start.event,aW<|m.items.map Og]] 0 0,nV c],[])) (fun b=>m.items.all m7=b.all m7) (by rfl) (fun _ _ _ _ _ b _=>Kl 3 77 (ln Og m.items)<|Kh 0 b<|Kl 1 44 (dV f)<|Kf 0<|o (i+Int.ofNat m.items.length)<|by(refine⟨by(simp only[oN]at *;omega),by assumption,?_⟩;simp only[mY,BA,aS,ak,bS, *])) fun b _ c _ e f i l n _ o _=>have o:=o.trans<|congrArg some<|eQ e;Kl 3 77 (ln Og m.items)<|Kt 0 n<|Kx 2 o<|Kp 0 (Vz e<|by first|exact((f1 _ (bX d j)).2 _ (bX k p)).2 _ (bX c l))<|Kn 0 (m7 e) (fun _=>Kf 0<|cA<|rr0 false) fun _=>Kl 1 80 (dV b)<|Kf 0<|i<|by simp only[aS,ak,bS, *]at *
noncomputable def Ov(gs:List PGaz)(p:aR):Bool:=Oy gs 24&&ak (aF 60 (Int.ofNat p.length))
theorem ifW(l:List PWord)(g:Nat)(q:PWord→Bool)(hp:∀k,k∈l→kP g [aQ k] (.bool (q k)))(hl:l.length<2^40):kP 291 [.ls (l.map aQ),.func (.func g) [] []] (iV (dA q l 0)):=by
  have rr0 b' (h:(dA q l 0)=b':=by first|exact mc zd0 hr0 hj0 ‹_› |exact hj0):=h;exact bG Tryz.func291<|Kl 2 7 (ln aQ l)<|Mg 0<|tu aQ l [0,1,7,8] (fun a _=>([aW<|l.map aQ,bx (bz g) [] [],nV l.length,nV a],[])) (fun a=>dA q l (0:Nat)=dA q a (l.length-a.length)) sA (fun _ _ zd0 _ hr0 a hj0=>Kh 0 a<|Kf 0<|li<|rr0 (-1)) fun a _ zd0 _ b c d hr0 e _ f hj0=>Kt 0 e<|Kx 4 f<|Kp 0 (hp b<|by exact bX zd0 hr0)<|Mb (q b) (fun _=>Kf 1<|li<|rr0<|Int.ofNat a) fun _=>Kl 0 18 (dV a)<|Kf 0<|d<|by exact ke zd0 hr0 hj0 (by omega)
theorem cfW(l:List PWord)(g:Nat)(q:PWord→Bool)(hp:∀k,k∈l→kP g [aQ k] (.bool (q k)))(hl:l.length<2^40):kP 263 [.ls (l.map aQ),.func (.func g) [] []] (.bool (l.any q)):=by
  have h:=ifW l g q hp hl
  have rr0 b' (h:(l.any q)=b':=by(rw[lm];simp only[aS,ak,bS,nG])):=h;exact bG Tryz.func263<|Kp 2 h<|Kf 1<|cA<|rr0<|ak<|aF (dA q l 0) 0
theorem C7(w:PWord):kP 262 [aQ w] (.bool (px w)):=by
  exact bG Tryz.func262<|Kv 4 (Gm ((Tryz.prog).underlying 100) w.act w.item w.at_ 0 0 0<|ab [aZ 4 false 0 [ax [aV w.text,iV w.act,iV w.item,iV w.at_]]])<|Kf 0<|bh<|eA<|ak<|af w.act 0&&(af w.item 0&&af w.at_ 0)
theorem SR(u:TUnit)(h1:u.head.length<2^40)(h2:u.words.length<2^40):kP 261 [eU u] (.bool (DC u)):=by
  have c1:=cfW u.head 262 px (fun k _=>C7 k) h1
  have c2:=cfW u.words 262 px (fun k _=>C7 k) h2
  have rr0 b' (h:(DC u)=b':=by(simp only[DC,fO,bB,bw,bT,aS,ak,bS, *];first|done|rfl)):=h;exact bG Tryz.func261<|Kv 5 (lr ((Tryz.prog).underlying 34) u.act u.item u.n 0 0 0<|ab [aZ 8 false 0 [ax [iV u.act,iV u.item,iV u.n,iV u.kind,aV u.label,aW<|u.head.map aQ,aW<|u.words.map aQ,aW<|u.kids.map aY]]])<|Kb 0 (af u.act 0&&(af u.item 0&&af u.n 0)) (fun a=>Kt 0 a<|Kt 0 a<|Kt 0 a<|Mp c1<|Mt a<|Ku 0 a<|Kn 0 (u.head.any px) (fun a=>Kt 0 (ch a)<|Kt 0 (ch a)<|Kt 0 (ch a)<|Mp c2<|Mt (ch a)<|Ku 0 (ch a)<|Kf 0<|cA<|rr0<|ak<|u.words.any px) fun a=>Mh (cb a)<|Mh (cb a)<|Mh (cb a)<|Mh (cb a)<|My (cb a)<|Ky 0<|rr0 false) fun a=>Mh a<|Mh a<|Mh a<|Mh a<|My a<|Ky 2<|rr0 false
theorem Ye(u:TUnit)(h:mD u):kP 235 [eU u] (.bool (Ik u)):=by
  have e1:=yj u h
  have e2:=MX 261 DC u (fun x hx=>by
      obtain⟨a,b,_⟩:=h.2 x hx
      grind[SR]) (by have h1:=bg u;have h3:=h.1;omega) (fun x hx=>by
      have h1:=bg x
      have h2:=dN hx
      have h3:=h.1
      omega)
  have rr0 b' (h:(Ik u)=b':=by(simp only[Ik,aS,ak,bS, *];first|done|rfl)):=h;exact bG Tryz.func235<|Kp 2 e1<|Kb 0 (kT u) (fun c=>Kt 0 c<|Mp e2<|MV c<|Kf 0<|cA<|rr0<|wg DC u) fun c=>Mh c<|My c<|Ky 0<|rr0 false
theorem NF(p:PId)(u:TUnit)(hh:cV p u=false)(hn:nU u≤2^20):kP 171 [eU u,aU p] (.tuple [aU bT,iV (-1),.bool false]):=by
  have hw:=KH p u hh hn
  exact bG Tryz.func171<|Kp 6 hw<|Kf 8<|bh<|eb [ax [iV 0,iV 0,iV 0],iV (-1),eA false]
theorem NE(p:PId)(u:TUnit)(hh:cV p u=true)(hl:aF (Int.ofNat (aI p u).length) 2=true)(hn:nU u≤2^20):kP 171 [eU u,aU p] (.tuple [aU bT,iV (-1),.bool false]):=by
  have hw:=Fo p u hh hn
  exact bG Tryz.func171<|Kp 6 hw<|Kl 2 14 (ln aY<|aI p u)<|Kt 0 hl<|Kf 3<|bh<|eb [ax [iV 0,iV 0,iV 0],iV (-1),eA false]
theorem Qy(p:PId)(u:TUnit)(h:iq p u=false)(hn:nU u≤2^20):kP 171 [eU u,aU p] (.tuple [aU bT,iV (-1),.bool false]):=by
  grind[NF,NE,iq]
theorem Qw(p:PId)(u:TUnit)(h:iq p u=true)(hn:nU u≤2^20):kP 171 [eU u,aU p] (.tuple [aU (sT p u),iV (qu p u),.bool true]):=by
  have hl:aF (Int.ofNat (aI p u).length) 2=false:=by grind[iq]
  have hl2:2≤(aI p u).length:=by have:=aG hl;grind
  have hh:cV p u=true:=by
    cases e:cV p u with
    |true=>rfl
    |false=>grind[Rh]
  have hw:=Fo p u hh hn
  have hlen:=mz (p:=p) u
  have hm:IH p u∈bu u:=KI u _ (fR (by omega))
  have hkn:∀k,k∈(IH p u).kids→nU k≤2^20:=fun k hk=>bR (dN (jY hm (LM hk))) hn
  have hkl:(IH p u).kids.length<2^40:=by have:=bg (IH p u);have:=dN hm;omega
  have hi:=aaJ (IH p u).kids 233 p (cV p) (fun k hk=>by
    grind[cV,NG,NH]) hkl
  rw[Jq h,Jz h]
  generalize hG:IH p u=y at *
  have hG2:gD (aI p u) ((aI p u).length -2)=y:=hG
  have rr0 b' (h:((bw y).a)=b':=by(rw[hG2];rfl)):=h;have rr1 b' (h:((bw y).i)=b':=by(rw[hG2];rfl)):=h;have rr2 b' (h:((bw y).n)=b':=by(rw[hG2];rfl)):=h;exact bG Tryz.func171<|Kp 6 hw<|Kl 2 14 (ln aY<|aI p u)<|Kh 0 hl<|Kl 2 19 (ln aY<|aI p u)<|Kl 0 20 (b0 (x:=Int.ofNat (aI p u).length -(2:Int)) (n:=(aI p u).length -2) fJ)<|Mx ((bY aY (oA:(aI p u).length -2<(aI p u).length)).trans<|congrArg some<|aT _)<|Mg 5<|M0 (.ren [2,3,0,1] [] [4,8,24,25])<|M1 (.frz 2 [4,8,24,25]) (ca rt rt ti)<|Mp (aC.onArgs (.cons (cQ (by(rw[hG2];done):(y.kids.map aY)=(List.map aY (gD (aI p u) ((aI p u).length -2)).kids)))<|lc .nil) hi:kP 232 [aW (List.map aY (gD (aI p u) ((aI p u).length -2)).kids),bx (bz 233) [] [AV.pptr [ax [iV p.a,iV p.i,iV p.n]] 0 0]] _)<|Kf 6 (eL<|.cons (bQ (.cons (li<|rr0 (gD (aI p u)<|(aI p u).length -2).act)<|.cons (li<|rr1 (gD (aI p u)<|(aI p u).length -2).item)<|.cons (li<|rr2 (gD (aI p u)<|(aI p u).length -2).n) .nil)<|by kernel_rfl)<|lc<|lc .nil:Le _ (eb [ax [iV (gD (aI p u) ((aI p u).length -2)).act,iV (gD (aI p u) ((aI p u).length -2)).item,iV (gD (aI p u) ((aI p u).length -2)).n],iV (dA (cV p) y.kids 0),eA true]))
theorem Qv(p:PId)(u:TUnit)(hn:nU u≤2^20):kP 171 [eU u,aU p] (.tuple [aU (sT p u),iV (qu p u),.bool (iq p u)]):=by
  grind[iq,Qw,XQ,Qb,Qy]
theorem Z3(p:PId)(u:TUnit)(h:cV p u=false)(hn:nU u≤2^20):kP 217 [eU u,aU p] (.ls ((qW p u).map aU)):=by
  have hw:=KH p u h hn
  have e:qW p u=[]:=by unfold qW;rw[At h];rfl
  rw[e]
  let q:=[aZ 8 false 0 [ax [iV u.act,iV u.item,iV u.n,iV u.kind,aV u.label,aW (u.head.map aQ),aW (u.words.map aQ),aW (u.kids.map aY)]],aZ 3 false 0 [ax [iV p.a,iV p.i,iV p.n]]];let q1:=[al,al,iV (IntKind.i64.wrap (0-2))];exact bG Tryz.func217<|Kp 5 hw<|Mg 4<|MO0 [5,6,7] (q1,q) True 0 ti fun _ _=>Kf 4 bM
theorem Z2(p:PId)(u:TUnit)(h:cV p u=true)(hn:nU u≤2^20):kP 217 [eU u,aU p] (.ls ((qW p u).map aU)):=by
  have hw:=Fo p u h hn
  have hlen:=mz (p:=p) u
  have hpos:0<(aI p u).length:=qw.2 (lj h)
  have hac:=DE p u
  have rr0 b' (h:((qW p u).map aU)=b':=by first|rfl|(rw[S9 hx0 ‹_›];rfl)|(rw[TQ hx0.2.1 oA ‹_›])):=h;exact bG Tryz.func217<|Kp 5 hw<|Kl 0 6 (fm ((aI p u).map aY) false<|aX iw<|aI p u)<|Kl 1 12 (ln aY<|aI p u)<|Kl 0 13 (Le.wr (x:=Int.ofNat (aI p u).length -2) fJ)<|K1 0 (.frz 0 [5,6,7]) ti<|Tj Int Nat Nat (List PId) (Int.ofNat (aI p u).length -2) [5,6,7] (fun a=>([al,aW<|(aI p u).map aY,iV a],[])) (fun a b c d=>([aM 0 b 0 c none,aW<|(aI p u).map aY,iV a],[aZ 3 true b<|d.map aU])) (fun a=>a=Int.ofNat (aI p u).length -(2:Int)) (fun a _ b c=>b=c.length∧c=oD p u (a+(1:Int)).toNat∧((-1):Int)≤a∧a+(2:Int)≤↑(aI p u).length∧c.length≤(aI p u).length) (fun a=>(a+1).toNat) (fun a _ _ _=>(a+1).toNat) (by rfl) (fun a hx0 _ b=>have hx0:=hx0;Kd 1 a 0 (fun _ _=>Kl 2 20 (BD (x:=a) oA)<|Mx ((bY aY (gR:a.toNat<(aI p u).length)).trans<|congrArg some<|aT _)<|Kl 6 17 (Le.wr (x:=a-1) fJ)<|Kf 0<|b (a-1) 0 1 [PId.mk (gD (aI p u) a.toNat).act (gD (aI p u) a.toNat).item (gD (aI p u) a.toNat).n] (by exact⟨rfl,O1 hx0 (by omega),by omega,by grind,by grind⟩) oA) fun _ _=>Kf 1 (Le.lsn<|rr0 []:Le _ (al))) fun a b c d hx0 _ e=>have hx0:=hx0;Kd 1 a 0 (fun _ _=>Kl 2 20 (BD (x:=a) oA)<|Mx ((bY aY (oA:a.toNat<(aI p u).length)).trans<|congrArg some<|aT _)<|K1 2 .app (ca (aK b) (sA:c=(d.map aU).length) (by(refine aO (m:=2^21) ?_ ?_ ?_<;>omega):small (c+1) 24=true))<|M1 (.obj 0<|aZ 3 true (b+1)<|(d++[PId.mk (gD (aI p u) a.toNat).act (gD (aI p u) a.toNat).item (gD (aI p u) a.toNat).n]).map aU) (congrArg (aZ 3 true<|b+1)<|dZ (f:=aU) (l:=d) (ws:=[PId.mk (gD (aI p u) a.toNat).act (gD (aI p u) a.toNat).item (gD (aI p u) a.toNat).n]))<|Kl 2 17 (Le.wr (x:=a-1) fJ)<|Kf 0<|e (a-1) (b+1) (c+1) (d++[PId.mk (gD (aI p u) a.toNat).act (gD (aI p u) a.toNat).item (gD (aI p u) a.toNat).n]) (by exact⟨by simp_all,Ic hx0.2.1 hx0.2.2.2.1 (by omega),by omega,by omega,by(have z:=Ic hx0.2.1 hx0.2.2.2.1 (by omega);grind)⟩) oA) fun _ _=>Mg 1<|M2 (.fsl 0 [] 4<|d.map aU) ti (ca (aK b) (tA aU d c (oA:(d).length=c))<|aX J0 d)<|Ml 4 (fm (d.map aU) false<|aX J0 d)<|Mf<|cQ<|rr0<|d.map aU
theorem Ib(p:PId)(u:TUnit)(hn:nU u≤2^20):kP 217 [eU u,aU p] (.ls ((qW p u).map aU)):=by
  grind[Z2,Z3]
theorem lY(u:TUnit)(s:PStep):kP 249 [eU u,aj s] (.bool (bF s u)):=by
  have rr0 b' (h:(bF s u)=b':=by(simp only[bF,bZ,aS,ak,bS, *];first|done|rfl)):=h;exact bG Tryz.func249<|Kb 8 (af u.kind s.kind) (fun a=>Kt 0 a<|Kt 0 a<|Kt 0 a<|Kt 0 a<|Ku 0 a<|Kf 0<|cA<|rr0<|eV u.label s.label) fun a=>Mh a<|Mh a<|Mh a<|Mh a<|My a<|Ky 0<|rr0 false
noncomputable abbrev jC(p:List PStep):AObj:=.row 1 false 0 [.ls (p.map aj)]
noncomputable abbrev E2(ep n:Nat):AObj:=.row 1 false 0 [.slice 2 ep 0 n none]
noncomputable abbrev B0(ep:Nat)(l:List TUnit):AObj:=.row 8 true ep (l.map aY)
noncomputable abbrev N0:AObj:=.row 1 false 0 [.nils]
theorem DU(s:PStep)(rs:List PStep)(u:TUnit)(h:By (bF s u) false):kD 248 [eU u,.ptr 0 0 0 0,.ptr 1 0 0 0] (ab [jC (s::rs),N0]) (.tuple []) (ab [jC (s::rs),N0]):=by
  have h':bF s u=false:=h
  exact eR Tryz.func248 fun a=>Kp 4 (lY u s)<|Mh h'<|M1 (.frz 2 []) (ca rt rt ti)<|Mf a
theorem JD(s:PStep)(rs:List PStep)(u:TUnit)(h:By (bF s u) true):kD 248 [eU u,.ptr 0 0 0 0,.ptr 1 0 0 0] (ab [jC (s::rs),N0]) (.tuple []) (ab [jC (s::rs),E2 0 1,B0 0 [u]]):=by
  have h':bF s u=true:=h
  exact Pm Tryz.func248<|Kp 4 (lY u s)<|Mt h'<|Mg 7<|M0 (.ren [0,1,3,2] [] [])<|M1 (.frz 3 []) (jd rt rt rt ti)<|Mf<|et (aK<|eb []) (by(simp only[B0,dn,yP,aT];rfl):(ab [AObj.row 1 false 0 [AV.ls ((s::rs).map aj)],AObj.row 1 false 0 [AV.slice 2 0 0 1 none],AObj.row 8 true 0 [AV.agg [iV u.act,iV u.item,iV u.n,iV u.kind,AV.str u.label,AV.ls (u.head.map aQ),AV.ls (u.words.map aQ),AV.ls (u.kids.map aY)]]])=(ab [jC (s::rs),E2 0 1,B0 0 [u]]))
theorem OY(s:PStep)(rs:List PStep)(u:TUnit)(ep n:Nat)(l:List TUnit)(h:By (bF s u) false):kD 248 [eU u,.ptr 0 0 0 0,.ptr 1 0 0 0] (ab [jC (s::rs),E2 ep n,B0 ep l]) (.tuple []) (ab [jC (s::rs),E2 ep n,B0 ep l]):=by
  have h':bF s u=false:=h
  exact eR Tryz.func248 fun a=>Kp 4 (lY u s)<|Mh h'<|M1 (.frz 3 []) (jd (tR 8 true ep 3<|aX iw l) rt rt ti)<|Mf a
theorem OU(s:PStep)(rs:List PStep)(u:TUnit)(ep n:Nat)(l:List TUnit)(h:By (bF s u) true)(hn:n=l.length)(hl:l.length<2^30):kD 248 [eU u,.ptr 0 0 0 0,.ptr 1 0 0 0] (ab [jC (s::rs),E2 ep n,B0 ep l]) (.tuple []) (ab [jC (s::rs),E2 (ep+1) (n+1),B0 (ep+1) (l++[u])]):=by
  have h':bF s u=true:=h
  let q:=[iV 0,iV 0,iV 0,iV 0,aV [],al,al,al];let q1:=List.map aY l++[ax q];exact eR Tryz.func248 fun a=>Kp 4 (lY u s)<|Mt h'<|Mg 3<|Mw (.apx q1<|.rix<|.rst (ax q) ((l++[u]).map aY)<|.go 0<|.frz 3 [] .fin)<|XT rt (iY (tR 8 true ep 4<|aX iw l) rt) (et (kN _ _:([ax q]:List AV)≠[]) rt) (et (ca (aK ep) (sA:n=(l.map aY).length) (by(refine aO (m:=2^31) ?_ ?_ ?_<;>(try simp only[lC,lN])<;>omega):small (n+([AV.agg [iV 0,iV 0,iV 0,iV 0,AV.str [],AV.nils,AV.nils,AV.nils]]).length) 120=true))<|aK q1) (et (aK<|ep+1) (oA:n<n+1)) rt (iY (tR 8 true (ep+1) 4 (by exact WI _ rfl:az q1=0)) rt) (ca (aK<|ep+1) (QA (f:=aY) (l:=l) (z:=ax q) (oA:n=(l).length))<|P6 (f:=aY) (g:=Go.Ev.eU) aT (l:=l) (z:=ax q) (w:=u) (oA:n=(l).length)) (jd (tR 8 true (ep+1) 3<|aX iw<|l++[u]) rt rt ti) a
theorem HL(s:PStep)(rs:List PStep):∀(u:TUnit),∀(ep n:Nat)(l:List TUnit),n=l.length→l.length+nU u<2^30→kC 247 [eU u,.func (.func 248) [] [.ptr 0 0 0 0,.ptr 1 0 0 0]] (ab [jC (s::rs),E2 ep n,B0 ep l])
    (fun v h=>∃y:Nat×Nat×List TUnit,(y.2.1=y.2.2.length∧y.2.2=l++lg s u)∧v=.tuple []∧h=ab [jC (s::rs),E2 y.1 y.2.1,B0 y.1 y.2.2]):=by
  refine TUnit.ind fun u ih ep n l hn hl=>?_
  have hq:=jy u
  have hkl:=bg u
  have hp:=zG s u
  rcases Bool.eq_false_or_eq_true (bF s u)with hc|hc
  · rw[hc]at hp
    exact qe Tryz.func247 fun a=>K1 2 (.frz 3 [1,2,6,7]) (jd (tR 8 true ep 3<|aX iw l) rt rt ti)<|Me (OU s rs u ep n l hc hn oA)<|Kl 2 11 (ln aY u.kids)<|Mg 0<|WZ aY u.kids (ep+1) (n+1) (l++[u]) [1,10,11,12] (fun a _ b c d=>([bx (bz 248) [] [bj 0 0 0 0,bj 1 0 0 0],aW<|u.kids.map aY,nV u.kids.length,nV a],[aZ 1 false 0 [aW<|(s::rs).map aj],aZ 1 false 0 [aM 2 b 0 c none],aZ 8 true b<|d.map aY])) (fun a _ b c=>b=c.length∧c++dq s a=l++[u]++dq s u.kids∧c.length+eJ a<2^30) gR (fun _ _ b c d _ _ _ e _=>Kh 0 e<|Mf<|a (b,c,d)<|by grind[mP]) fun a _ b c d e f g i j k m _ o _=>have o:=(o).trans<|congrArg some<|aT g;have:=cj (J:=fun a b=>b.2.1=b.2.2.length∧b.2.2++dq s a=l++[u]++dq s u.kids∧b.2.2.length+eJ a<2^30) (a:=(b,c,d)) k f;have e:=bX e k;have f:d.length+nU g<2^30:=(by grind[bi]);Kt 0 m<|Mx o<|K1 4 (.frz 3 [1,10,11,12,16,17]) (jd (tR 8 true b 3<|aX iw d) rt rt ti)<|Mq (ih g e b c d oA f) fun b _=>Kl 0 19 (dV a)<|Kf 0<|j b.1 b.2.1 b.2.2<|by grind[bi,gP,mn]
  · rw[hc]at hp
    exact qe Tryz.func247 fun a=>K1 2 (.frz 3 [1,2,6,7]) (jd (tR 8 true ep 3<|aX iw l) rt rt ti)<|Me (OY s rs u ep n l hc)<|Kl 2 11 (ln aY u.kids)<|Mg 0<|WZ aY u.kids ep n l [1,10,11,12] (fun a _ b c d=>([bx (bz 248) [] [bj 0 0 0 0,bj 1 0 0 0],aW<|u.kids.map aY,nV u.kids.length,nV a],[aZ 1 false 0 [aW<|(s::rs).map aj],aZ 1 false 0 [aM 2 b 0 c none],aZ 8 true b<|d.map aY])) (fun a _ b c=>b=c.length∧c++dq s a=l++dq s u.kids∧c.length+eJ a<2^30) gR (fun _ _ b c d _ _ _ e _=>Kh 0 e<|Mf<|a (b,c,d)<|by grind[mP]) fun a _ b c d e f g i j k m _ o _=>have o:=(o).trans<|congrArg some<|aT g;have:=cj (J:=fun a b=>b.2.1=b.2.2.length∧b.2.2++dq s a=l++dq s u.kids∧b.2.2.length+eJ a<2^30) (a:=(b,c,d)) k f;have e:=bX e k;have f:d.length+nU g<2^30:=(by grind[bi]);Kt 0 m<|Mx o<|K1 4 (.frz 3 [1,10,11,12,16,17]) (jd (tR 8 true b 3<|aX iw d) rt rt ti)<|Mq (ih g e b c d oA f) fun b _=>Kl 0 19 (dV a)<|Kf 0<|j b.1 b.2.1 b.2.2<|by grind[bi,gP,mn]
theorem HM(s:PStep)(rs:List PStep):∀(u:TUnit),nU u≤2^20→By (lg s u).isEmpty true→kD 247 [eU u,.func (.func 248) [] [.ptr 0 0 0 0,.ptr 1 0 0 0]] (ab [jC (s::rs),N0]) (.tuple []) (ab [jC (s::rs),N0]):=by
  refine TUnit.ind fun u ih hn he=>?_
  have hkl:=bg u
  have hp:=zG s u
  have he':=List.isEmpty_iff.1 (show(lg s u).isEmpty=true from he)
  rw[he']at hp
  rcases Bool.eq_false_or_eq_true (bF s u)with hc|hc
  · grind
  · rw[hc]at hp
    have hp:dq s u.kids=[]:=hp.symm
    exact eR Tryz.func247 fun a=>K1 2 (.frz 2 [1,2,6,7]) (ca rt rt ti)<|Me (DU s rs u hc)<|Kl 2 11 (ln aY u.kids)<|Mg 0<|tu aY u.kids [1,10,11,12] (fun a _=>([bx (bz 248) [] [bj 0 0 0 0,bj 1 0 0 0],aW<|u.kids.map aY,nV u.kids.length,nV a],[aZ 1 false 0 [aW<|(s::rs).map aj],aZ 1 false 0 [al]])) (fun a=>dq s a=[]) oA (fun _ _ _ _ _ b _=>Kh 0 b<|Mf a) fun a _ b _ c d e f g _ h i=>have h:=h.trans<|congrArg some<|aT c;have j:=bX b f;have b:=bR (oR<|io<|bX b f) hn;have f:(lg s c).isEmpty=true:=(by rw[gP]at i;rw[(List.append_eq_nil_iff.1 i).1];rfl);Kt 0 g<|Mx h<|K1 4 (.frz 2 [1,10,11,12,16,17]) (ca rt rt ti)<|Me (ih c j b f)<|Kl 0 19 (dV a)<|Kf 0<|e<|by grind[gP]
theorem Sz(s:PStep)(rs:List PStep):∀(u:TUnit),nU u≤2^20→By (lg s u).isEmpty false→kC 247 [eU u,.func (.func 248) [] [.ptr 0 0 0 0,.ptr 1 0 0 0]] (ab [jC (s::rs),N0])
    (fun v h=>∃y:Nat×Nat×List TUnit,(y.2.1=y.2.2.length∧y.2.2=lg s u)∧v=.tuple []∧h=ab [jC (s::rs),E2 y.1 y.2.1,B0 y.1 y.2.2]):=by
  refine TUnit.ind fun u ih hn he=>?_
  have hq:=jy u
  have hkl:=bg u
  have hp:=zG s u
  rcases Bool.eq_false_or_eq_true (bF s u)with hc|hc
  · rw[hc]at hp
    exact qe Tryz.func247 fun a=>K1 2 (.frz 2 [1,2,6,7]) (ca rt rt ti)<|Me (JD s rs u hc)<|Kl 2 11 (ln aY u.kids)<|Mg 0<|WZ aY u.kids (0:Nat) (1:Nat) ([u]:List TUnit) [1,10,11,12] (fun a _ b c d=>([bx (bz 248) [] [bj 0 0 0 0,bj 1 0 0 0],aW<|u.kids.map aY,nV u.kids.length,nV a],[aZ 1 false 0 [aW<|(s::rs).map aj],aZ 1 false 0 [aM 2 b 0 c none],aZ 8 true b<|d.map aY])) (fun a _ b c=>b=c.length∧c++dq s a=[u]++dq s u.kids∧c.length+eJ a<2^30) gR (fun _ _ b c d _ _ _ e _=>Kh 0 e<|Mf<|a (b,c,d)<|by grind[mP]) fun a _ b c d e f g i j k l _ m _=>have m:=(m).trans<|congrArg some<|aT g;have:=cj (J:=fun a b=>b.2.1=b.2.2.length∧b.2.2++dq s a=[u]++dq s u.kids∧b.2.2.length+eJ a<2^30) (a:=(b,c,d)) k f;have:=bX e k;have e:d.length+nU g<2^30:=(by grind[bi]);Kt 0 l<|Mx m<|K1 4 (.frz 3 [1,10,11,12,16,17]) (jd (tR 8 true b 3<|aX iw d) rt rt ti)<|Mq (HL s rs g b c d oA e) fun b _=>Kl 0 19 (dV a)<|Kf 0<|j b.1 b.2.1 b.2.2<|by grind[bi,gP,mn]
  · rw[hc]at hp
    have hne:dq s u.kids≠[]:=fun e=>by
      simp_all
    exact qe Tryz.func247 fun a=>K1 2 (.frz 2 [1,2,6,7]) (ca rt rt ti)<|Me (DU s rs u hc)<|Kl 2 11 (ln aY u.kids)<|Mg 0<|kM Nat Nat (List TUnit) aY u.kids [1,10,11,12] (fun a _=>([bx (bz 248) [] [bj 0 0 0 0,bj 1 0 0 0],aW<|u.kids.map aY,nV u.kids.length,nV a],[aZ 1 false 0 [aW<|(s::rs).map aj],aZ 1 false 0 [al]])) (fun a _ b c d=>([bx (bz 248) [] [bj 0 0 0 0,bj 1 0 0 0],aW<|u.kids.map aY,nV u.kids.length,nV a],[aZ 1 false 0 [aW<|(s::rs).map aj],aZ 1 false 0 [aM 2 b 0 c none],aZ 8 true b<|d.map aY])) (fun a=>a≠[]∧dq s a=dq s u.kids) (fun a _ b c=>b=c.length∧c++dq s a=dq s u.kids∧c.length+eJ a<2^30) (by(exact⟨La rfl hne,rfl⟩)) (fun _ _ _ _ _ _ _=>Mw .abs (sA:False)) (fun a _ b c d f g i j k _ l _=>have l:=(l).trans<|congrArg some<|aT d;have:=cj (J:=fun a _=>a≠[]∧dq s a=dq s u.kids) (a:=()) j c;have c:=bX b j;have m:=bR (oR<|io<|bX b j) hn;have:nU d+eJ f≤2^20:=(by have z:=pZ b j;omega);Kt 0 k<|Mx l<|K1 4 (.frz 2 [1,10,11,12,16,17]) (ca rt rt ti)<|Ms (lg s d).isEmpty (fun b=>Me (HM s rs d m b)<|Kl 0 19 (dV a)<|Kf 0<|g<|by(have e:dq s f=dq s u.kids:=(by grind[gP]);exact⟨La e hne,e⟩)) fun b=>Mq (ih d c m b) fun b _=>Kl 0 19 (dV a)<|Kf 0<|i b.1 b.2.1 b.2.2<|by grind[gP,mn]) (fun _ _ b c d _ _ _ f g=>Kh 0 f<|Mf<|a (b,c,d)<|by(refine⟨g.1,?_⟩;have:=g.2.1;rw[mP,dE]at this;simp_all)) fun a _ b c d f g i j _ k l m _ n _=>have n:=(n).trans<|congrArg some<|aT i;have:=cj (J:=fun a b=>b.2.1=b.2.2.length∧b.2.2++dq s a=dq s u.kids∧b.2.2.length+eJ a<2^30) (a:=(b,c,d)) l g;have:=bX f l;have:=bR (oR<|io<|bX f l) hn;have:nU i+eJ j≤2^20:=(by have z:=pZ f l;omega);Kt 0 m<|Mx n<|K1 4 (.frz 3 [1,10,11,12,16,17]) (jd (tR 8 true b 3<|aX iw d) rt rt ti)<|Mq (HL s rs i b c d oA<|by grind[bi]) fun b _=>Kl 0 19 (dV a)<|Kf 0<|k b.1 b.2.1 b.2.2<|by grind[gP,mn]
theorem VV(u:TUnit)(hb:kL []=true):kP 204 [eU u,.ls (([]:List PStep).map aj)] (.ls ((dT u []).map aY)):=by
  have hv:=vc [] (by simp) (fun s h=>by grind)
  rw[Hj hb]
  have rr0 b' (h:(List.map aY [u])=b':=by(rw[dn,aT];rfl)):=h;let q:=[ax [iV u.act,iV u.item,iV u.n,iV u.kind,aV u.label,aW (u.head.map aQ),aW (u.words.map aQ),aW (u.kids.map aY)]];exact bG Tryz.func204<|Kp 3 hv<|Kf 10 (Le.lsp (rr0 q)<|by rfl:Le _ (AV.ps q true))
def Hv(u:TUnit)(s:PStep)(rs:List PStep)(z1000:List TUnit):Prop:=dT u (s::rs)=gp rs z1000∧eJ z1000≤2^22
noncomputable def Hw(u:TUnit)(s:PStep)(rs:List PStep)(z1000:List TUnit):List AV×List AObj:=([AV.ptr 0 0 0 0,AV.ptr 1 0 0 0],[AObj.row 1 false 0 [AV.ls ((s::rs).map aj)],AObj.row 1 false 0 [AV.ls (z1000.map aY)]])
theorem RD(u:TUnit)(s:PStep)(rs:List PStep)(hn:nU u≤2^11)(hl:(s::rs).length<2^40)(hs:∀x,x∈s::rs→x.label.length≤2^39):kP 204 [eU u,.ls ((s::rs).map aj)] (.ls ((dT u (s::rs)).map aY)):=by
  have hv:=vc (s::rs) hl hs
  have hk:=Ih s
  have hpb:=Gn s u fun x hx=>dN hx
  have hpm:nU u*nU u≤2^11*2^11:=Nat.mul_le_mul hn hn
  have hd:((s::rs).drop 1).length=rs.length:=rfl
  have rr0 b' (h:((dT u (s::rs)).map aY)=b':=by first|rfl|(rw[JC ‹_›];rfl)|(rw[hj0.1,I0])):=h;exact bG Tryz.func204<|Kp 3 hv<|Kn 0 (kL<|s::rs) (fun _=>Kf 0 (Le.lsn<|rr0 []:Le _ (al))) fun _=>Mg 0<|Mj (List TUnit) [3,5] (Hw u s rs) (Hv u s rs) (fun a=>Kl 1 21 (ln aj<|s::rs)<|Kp 5 hk<|Kb 0 (af s.kind 0&&eV s.label []) (fun _=>Kl 1 31 (Le.lsp (t:=true) (Eq.symm<|Ur (f:=aY) (g:=Go.Ev.eU) (ws:=[u]) aT) (aK 0:az ([ax [iV u.act,iV u.item,iV u.n,iV u.kind,aV u.label,aW (u.head.map aQ),aW (u.words.map aQ),aW (u.kids.map aY)]])=0))<|Mg 0<|M0 (.ren [1,2,0] [] [3,5])<|M1 (.frz 2 [3,5]) (ca rt rt ti)<|Mf<|a [u] (by exact⟨Hk (by omega) (by assumption),by grind[bi,mw]⟩:dT u (s::rs)=gp rs [u]∧eJ [u]≤2^22)) fun _=>Mg 1<|M0 (.ren [1,2,0] [] [3,5,16,17])<|M1 (.frz 2 [3,5,16,17]) (ca rt rt ti)<|Ms (lg s u).isEmpty (fun b=>Me (HM s rs u oA b)<|M1 (.obw 1<|aW []) (XK bM rfl rfl)<|Mf<|a [] (by exact⟨by rw[xg (by omega) (by assumption),List.isEmpty_iff.1 b],by grind⟩:dT u (s::rs)=gp rs []∧eJ []≤2^22)) fun b=>Mq (Sz s rs u oA b) fun b c=>M2 (.fzo 1 2 [3,5]<|b.2.2.map aY) (ca rt rt ti) (ca (aK b.1) (tA aY b.2.2 b.2.1 (oA:(b.2.2).length=b.2.1))<|aX iw b.2.2)<|Mf<|a b.2.2 (by exact⟨by rw[xg (by omega) (by assumption),c.2],by grind⟩:dT u (s::rs)=gp rs b.2.2∧eJ b.2.2≤2^22)) fun a b=>have:dT u (s::rs)=gp rs a∧eJ a≤2^22:=b;K1 0 (.slp<|((s::rs).drop 1).map aj) (ca (hM 2 aj (s::rs) fun _=>rfl) (et (sA:1≤((s::rs).map aj).length) (oA:((s::rs).map aj).length≤((s::rs).map aj).length))<|YG (f:=aj) (l:=s::rs) (k:=1))<|Kl 0 34 (ln aj<|List.drop 1<|s::rs)<|Mg 0<|M0 (.ren [1,0] [] [5,33,34,35])<|M1 (.frz 1 [5,33,34,35]) (et rt ti)<|PJ aj (List.drop 1<|s::rs) a [5,33,34,35] (fun a _ b=>([bj 0 0 0 0,aW<|((s::rs).drop 1).map aj,nV ((s::rs).drop 1).length,nV a],[aZ 1 false 0 [aW<|b.map aY]])) (fun a b=>dT u (s::rs)=gp a b∧eJ b≤2^22) sA (fun _ _ a _ _ _ b hj0=>Kh 0 b<|Kf 1<|cQ<|rr0<|a.map aY) fun a _ b _ _ c d e _ f _ g hj0=>have:b.length≤eJ b:=yn _;Kt 0 f<|Mx g<|Kl 5 40 (ln aY b)<|Mg 0<|kM Nat Nat (List TUnit) aY b [5,7,8,33,34,35,39,40,41] (fun d _=>([bj 0 0 0 0,bj 1 0 0 0,al,aW<|((s::rs).drop 1).map aj,nV ((s::rs).drop 1).length,nV a,aW<|b.map aY,nV b.length,nV d],[aZ 1 false 0 [aW<|b.map aY],aZ 2 false 0 [ax [iV c.kind,aV c.label]]])) (fun d _ e f g=>([bj 0 0 0 0,bj 1 0 0 0,aM 2 e 0 f none,aW<|((s::rs).drop 1).map aj,nV ((s::rs).drop 1).length,nV a,aW<|b.map aY,nV b.length,nV d],[aZ 1 false 0 [aW<|b.map aY],aZ 2 false 0 [ax [iV c.kind,aV c.label]],aZ 8 true e<|g.map aY])) (fun a=>cp c a=cp c b) (fun a _ d e=>d=e.length∧e++cp c a=cp c b∧e.length+eJ a<2^30) (by rfl) (fun _ _ _ _ _ b c=>Kh 0 b<|Kl 0 61 bM<|Kl 1 62 (dV a)<|K1 0 (.frz 1 [5,33,34,35]) (et rt ti)<|Mf<|e []<|by exact fA hj0 c) (fun d _ e f g i j k l n _ o _=>have p:=(o).trans<|congrArg some<|aT g;have:=cj (J:=fun a _=>cp c a=cp c b) (a:=()) l f;have:nU g+eJ i≤eJ b:=pZ e l;have:g.kids.length<nU g:=bg g;have:nU g=1+eJ g.kids:=jy g;Kt 0 n<|Mx p<|Kl 5 47 (ln aY g.kids)<|K1 0 (.frz 2 [5,7,8,33,34,35,39,40,41,46,47,48]) (ca rt rt ti)<|kM Nat Nat (List TUnit) aY g.kids [5,7,8,33,34,35,39,40,41,46,47,48] (fun e _=>([bj 0 0 0 0,bj 1 0 0 0,al,aW<|((s::rs).drop 1).map aj,nV ((s::rs).drop 1).length,nV a,aW<|b.map aY,nV b.length,nV d,aW<|g.kids.map aY,nV g.kids.length,nV e],[aZ 1 false 0 [aW<|b.map aY],aZ 2 false 0 [ax [iV c.kind,aV c.label]]])) (fun e _ f i j=>([bj 0 0 0 0,bj 1 0 0 0,aM 2 f 0 i none,aW<|((s::rs).drop 1).map aj,nV ((s::rs).drop 1).length,nV a,aW<|b.map aY,nV b.length,nV d,aW<|g.kids.map aY,nV g.kids.length,nV e],[aZ 1 false 0 [aW<|b.map aY],aZ 2 false 0 [ax [iV c.kind,aV c.label]],aZ 8 true f<|j.map aY])) (fun a=>List.filter (bF c) a++cp c i=cp c b) (fun a _ d e=>d=e.length∧e++(List.filter (bF c) a++cp c i)=cp c b∧e.length+(eJ a+eJ i)<2^30) (by simp_all[gA]) (fun _ _ _ _ _ a _=>Kh 0 a<|Kl 0 60 (dV d)<|Kf 0<|j sA) (fun a _ d e f j k l n p _ o _=>have o:=(o).trans<|congrArg some<|aT f;have:=cj (J:=fun a _=>List.filter (bF c) a++cp c i=cp c b) (a:=()) n e;have:nU f+eJ j≤eJ g.kids:=pZ d n;Kt 0 p<|Mx o<|Kp 4 (lY f c)<|Mb (bF c f) (fun _=>K1 3 (.obj 3<|aZ 8 true 0<|List.map aY [f]) (congrArg (aZ 8 true 0)<|Ur (f:=aY) (g:=Go.Ev.eU) (ws:=[f]) aT)<|Kl 1 59 (dV a)<|K1 0 (.ren [0,1,3,2] [3] [5,7,8,33,34,35,39,40,41,46,47,48]) (tS 8 true 0<|aX iw [f])<|M1 (.frz 3 [5,7,8,33,34,35,39,40,41,46,47,48]) (jd (tR 8 true 0 3<|aX iw [f]) rt rt ti)<|Mf<|l 0 1 [f] gR) fun _=>Kl 0 59 (dV a)<|K1 0 (.frz 2 [5,7,8,33,34,35,39,40,41,46,47,48]) (ca rt rt ti)<|Mf<|k sA) (fun _ _ a e f _ _ _ g _=>Kh 0 g<|Kl 0 60 (dV d)<|Kf 0<|k a e f gR) fun a _ d e f j k l n _ p q r _ o _=>have o:=(o).trans<|congrArg some<|aT l;have k:=cj (J:=fun a d=>d.2.1=d.2.2.length∧d.2.2++(List.filter (bF c) a++cp c i)=cp c b∧d.2.2.length+(eJ a+eJ i)<2^30) (a:=(d,e,f)) q k;have:nU l+eJ n≤eJ g.kids:=pZ j q;Kt 0 r<|Mx o<|Kp 4 (lY l c)<|Mb (bF c l) (fun _=>K1 2 .app (ca (aK d) (sA:e=(f.map aY).length) (by(refine aO (m:=2^31) ?_ ?_ ?_<;>omega):small (e+1) 120=true))<|M1 (.obj 2<|aZ 8 true (d+1)<|(f++[l]).map aY) (congrArg (aZ 8 true<|d+1)<|yp (f:=aY) (g:=Go.Ev.eU) (l:=f) (ws:=[l]) aT)<|Kl 1 59 (dV a)<|K1 0 (.frz 3 [5,7,8,33,34,35,39,40,41,46,47,48]) (jd (tR 8 true (d+1) 3<|aX iw<|f++[l]) rt rt ti)<|Mf<|p (d+1) (e+1) (f++[l])<|by exact hB1 k (by omega)) fun _=>Kl 0 59 (dV a)<|K1 0 (.frz 3 [5,7,8,33,34,35,39,40,41,46,47,48]) (jd (tR 8 true d 3<|aX iw f) rt rt ti)<|Mf<|p d e f<|by exact hB0 k (by omega)) (fun _ _ b c f _ _ _ g i=>let j:=List.map aY f;Kh 0 g<|Mg 0<|M2 (.fsl 2 [5,33,34,35] 61 j) (ca rt rt ti) (ca (aK b) (tA aY f c (oA:(f).length=c))<|aX iw f)<|Ml 61 (fm j false<|aX iw f)<|Kl 1 62 (dV a)<|K1 0 (.frz 1 [5,33,34,35]) (et rt ti)<|Mf<|e f<|by exact fB hj0 i.2.1) fun d _ e f g i j k l _ n o p _ q _=>have r:=(q).trans<|congrArg some<|aT k;have j:=cj (J:=fun a d=>d.2.1=d.2.2.length∧d.2.2++cp c a=cp c b∧d.2.2.length+eJ a<2^30) (a:=(e,f,g)) o j;have:nU k+eJ l≤eJ b:=pZ i o;have:k.kids.length<nU k:=bg k;have:nU k=1+eJ k.kids:=jy k;Kt 0 p<|Mx r<|Kl 5 47 (ln aY k.kids)<|K1 0 (.frz 3 [5,7,8,33,34,35,39,40,41,46,47,48]) (jd (tR 8 true e 3<|aX iw g) rt rt ti)<|WZ aY k.kids e f g [5,7,8,33,34,35,39,40,41,46,47,48] (fun e _ f g i=>([bj 0 0 0 0,bj 1 0 0 0,aM 2 f 0 g none,aW<|((s::rs).drop 1).map aj,nV ((s::rs).drop 1).length,nV a,aW<|b.map aY,nV b.length,nV d,aW<|k.kids.map aY,nV k.kids.length,nV e],[aZ 1 false 0 [aW<|b.map aY],aZ 2 false 0 [ax [iV c.kind,aV c.label]],aZ 8 true f<|i.map aY])) (fun a _ d e=>d=e.length∧e++(List.filter (bF c) a++cp c l)=cp c b∧e.length+(eJ a+eJ l)<2^30) (by(exact gB j)) (fun _ _ a e f _ _ _ g _=>Kh 0 g<|Kl 0 60 (dV d)<|Kf 0<|n a e f gR) fun a _ d e f g i j n o p r _ q _=>have q:=(q).trans<|congrArg some<|aT j;have i:=cj (J:=fun a d=>d.2.1=d.2.2.length∧d.2.2++(List.filter (bF c) a++cp c l)=cp c b∧d.2.2.length+(eJ a+eJ l)<2^30) (a:=(d,e,f)) p i;have:nU j+eJ n≤eJ k.kids:=pZ g p;Kt 0 r<|Mx q<|Kp 4 (lY j c)<|Mb (bF c j) (fun _=>K1 2 .app (ca (aK d) (sA:e=(f.map aY).length) (by(refine aO (m:=2^31) ?_ ?_ ?_<;>omega):small (e+1) 120=true))<|M1 (.obj 2<|aZ 8 true (d+1)<|(f++[j]).map aY) (congrArg (aZ 8 true<|d+1)<|yp (f:=aY) (g:=Go.Ev.eU) (l:=f) (ws:=[j]) aT)<|Kl 1 59 (dV a)<|K1 0 (.frz 3 [5,7,8,33,34,35,39,40,41,46,47,48]) (jd (tR 8 true (d+1) 3<|aX iw<|f++[j]) rt rt ti)<|Mf<|o (d+1) (e+1) (f++[j])<|by exact hB1 i (by omega)) fun _=>Kl 0 59 (dV a)<|K1 0 (.frz 3 [5,7,8,33,34,35,39,40,41,46,47,48]) (jd (tR 8 true d 3<|aX iw f) rt rt ti)<|Mf<|o d e f<|by exact hB0 i (by omega)
theorem VK(u:TUnit)(p:List PStep)(hn:nU u≤2^11)(hl:p.length<2^40)(hs:∀x,x∈p→x.label.length≤2^39):kP 204 [eU u,.ls (p.map aj)] (.ls ((dT u p).map aY)):=by
  cases p with
  |nil=>exact VV u rfl
  |cons s rs=>grind[RD]
theorem Ow(u:TUnit)(p:List PStep)(L:List TUnit)(hf:kP 204 [eU u,.ls (p.map aj)] (.ls (L.map aY)))(hL:L.length≤2^22):kP 140 [eU u,.ls (p.map aj)] (.ls ((L.map bw).map aU)):=by
  have rr0 b' (h:((L.map bw).map aU)=b':=by first|rfl|(rw[←hj0];rfl)|(rw[←hj0.2.2.1];simp)):=h;exact bG Tryz.func140<|Kp 4 hf<|Kl 0 11 (ln aY L)<|K1 0 (.frz 0 [5,10,11,12]) ti<|kM Nat Nat (List PId) aY L [5,10,11,12] (fun a _=>([al,aW<|L.map aY,nV L.length,nV a],[])) (fun a _ b c d=>([aM 0 b 0 c none,aW<|L.map aY,nV L.length,nV a],[aZ 3 true b<|d.map aU])) (fun a=>a=L) (fun a _ b c=>b=c.length∧(0:Nat)<c.length∧c++List.map bw a=List.map bw L∧c.length+a.length=L.length) (by rfl) (fun _ _ _ _ _ a hj0=>Kh 0 a<|Kf 1 (Le.lsn<|rr0 []:Le _ (al))) (fun a _ _ b c d _ e f g _ i _=>have i:=(i).trans<|congrArg some<|aT c;have hj0:=cj (J:=fun a _=>a=L) (a:=()) f b;Kt 0 g<|Mx i<|Kl 9 21 (jk a)<|Mg 0<|M0 (.ren [1,0] [] [5,10,11,12])<|M1 (.frz 1 [5,10,11,12]) (et rt ti)<|Mf<|e 0 1 [PId.mk c.act c.item c.n]<|by(refine⟨rfl,by simp,?_,?_⟩<;>(rw[←hj0])<;>(first|rfl|grind))) (fun _ _ a b c _ _ _ d hj0=>Kh 0 d<|Mg 1<|M2 (.fsl 0 [] 4<|c.map aU) ti (ca (aK a) (tA aU c b (oA:(c).length=b))<|aX J0 c)<|Ml 4 (fm (c.map aU) false<|aX J0 c)<|Mf<|cQ<|rr0<|c.map aU) fun a _ b c d _ e f g _ i j k _ l _=>have l:=(l).trans<|congrArg some<|aT f;have hj0:=cj (J:=fun a b=>b.2.1=b.2.2.length∧(0:Nat)<b.2.2.length∧b.2.2++List.map bw a=List.map bw L∧b.2.2.length+a.length=L.length) (a:=(b,c,d)) j e;Kt 0 k<|Mx l<|K1 6 .app (ca (aK b) (sA:c=(d.map aU).length) (by(refine aO (m:=2^25) ?_ ?_ ?_<;>omega):small (c+1) 24=true))<|M1 (.obj 0<|aZ 3 true (b+1)<|(d++[PId.mk f.act f.item f.n]).map aU) (congrArg (aZ 3 true<|b+1)<|dZ (f:=aU) (l:=d) (ws:=[PId.mk f.act f.item f.n]))<|Kl 1 21 (jk a)<|K1 0 (.frz 1 [5,10,11,12]) (et (tR 3 true (b+1) 1<|aX J0<|d++[PId.mk f.act f.item f.n]) ti)<|Mf<|i (b+1) (c+1) (d++[PId.mk f.act f.item f.n])<|by(refine⟨by simp_all,by simp,?_,?_⟩<;>first|(rw[←hj0.2.2.1,dn,mB];rfl)|(rw[←hj0.2.2.1];simp;done)|grind)
theorem Oz(u:TUnit)(p:List PStep)(hf:kP 140 [eU u,.ls (p.map aj)] (.ls (([]:List PId).map aU))):kP 107 [eU u,.ls (p.map aj)] (.tuple [aU bT,iV 7]):=by
  exact bG Tryz.func107<|Kp 4 hf<|Kf 8<|bh<|eb [ax [iV 0,iV 0,iV 0],iV 7]
theorem Oj(u x:TUnit)(p:List PStep)(hf:kP 140 [eU u,.ls (p.map aj)] (.ls ([bw x].map aU))):kP 107 [eU u,.ls (p.map aj)] (.tuple [aU (bw x),iV 0]):=by
  exact bG Tryz.func107<|Kp 4 hf<|Kf 13<|bh<|eb [ax [iV (bw x).a,iV (bw x).i,iV (bw x).n],iV 0]
theorem Ox(u:TUnit)(p:List PStep)(a b:PId)(r:List PId)(hf:kP 140 [eU u,.ls (p.map aj)] (.ls ((a::b::r).map aU))):kP 107 [eU u,.ls (p.map aj)] (.tuple [aU bT,iV 8]):=by
  have q1:af (Int.ofNat (r.length+1+1)) 0=false:=rfl
  have q2:af (Int.ofNat (r.length+1+1)) 1=false:=rfl
  exact bG Tryz.func107<|Kp 4 hf<|Kl 2 11 (ln aU<|a::b::r)<|Kf 8<|bh<|eb [ax [iV 0,iV 0,iV 0],iV 8]
/-- The way of an address, whatever it finds. -/
theorem Oq(u:TUnit)(p:List PStep)(hf:kP 204 [eU u,.ls (p.map aj)] (.ls ((dT u p).map aY)))(hn:nU u≤2^11):kP 107 [eU u,.ls (p.map aj)] (.tuple [aU (aH u p).1,iV (aH u p).2]):=by
  have ha:=Ow u p (dT u p) hf (JB p hn)
  cases e:dT u p with
  |nil=>grind[He,Oz]
  | cons x r=>
    cases r with
    |nil=>grind[Hd,Oj]
    |cons y r=>grind[Hc,Ox]
noncomputable abbrev zU:AV:=.agg [iV 0,iV 0,iV 0,iV 0,.str [],.nils,.nils,.nils]
noncomputable abbrev dD(xs:List AV):AObj:=.row 8 false 0 xs
theorem Vh{L Z:List AV}{n i:Nat}(hn:L.length=n)(hi:i<n):((L++Z).drop (i+1)).take (n-(i+1))=L.drop (i+1):=by
  grind
theorem Vi{L Z:List AV}{n i:Nat}(hn:L.length=n)(hi:i<n):bv (L++Z) (0+i) (L.drop (i+1))=L.eraseIdx i++(L.drop (n-1)++Z):=by
  unfold bv
  grind
theorem ER{L Z:List AV}{z:AV}{n i:Nat}(hn:L.length=n)(hi:i<n):bv (L.eraseIdx i++(L.drop (n-1)++Z)) (n-1) (List.replicate 1 z)=L.eraseIdx i++(z::Z):=by
  unfold bv
  have h1:(L.eraseIdx i).length=n-1:=by grind
  have h2:(L.drop (n-1)).length=1:=by grind
  grind
theorem Y9{a b:Nat}(h:a≠b):af (Int.ofNat a) (Int.ofNat b)=false:=by
  grind[rP]
theorem Sb(L Z:List AV)(n k i:Nat)(hi:i+1<n)(hn:L.length=n)(hs:n≤2^20)(hf:dg 8 L=true)(hZ:Z.length=k)(hT:az (L++Z)=0):kD 228 [.slice 0 0 0 n (some (n+k)),nV i,nV (i+1)] (ab [dD (L++Z)]) (.slice 0 0 0 (n-1) (some (n+k))) (ab [dD (L.eraseIdx i++(zU::Z))]):=by
  have hq:af (Int.ofNat i) (Int.ofNat (i+1))=false:=Y9 (by omega)
  let q:=AHeap.mk 1000000 (bD (ab [aZ 8 false 0 (L++Z)]) ([0]) Tr.nil);let q1:=ab [aZ 8 false 0 (L.eraseIdx i++(L.drop (n-1)++Z))];let q2:=ab [aZ 8 false 0 (L++Z)];let q3:=(some (aM 0 0 0 n (some (n+k))));let q4:=aM 0 0 (i+1) (n-(i+1)) (some (n+k-(i+1)));let q5:=(some (nV (i+1)));let q6:=(some (nV i));let q7:=(some (nV n));let q8:=AHeap.mk 1 (bD q2 ([0,0]) Tr.nil);let q9:=aM 0 0 0 (n-1) (some (n+k));let q10:=aM 0 0 (n-1) 1 (some (k+1));let q11:=aM 0 0 0 i (some (n+k));exact eR Tryz.func228 fun a=>Ko 5 (by exact DS (xs:=L++Z) (l:=i) (h:=i+1) (m:=n) (by kernel_rfl) (by rfl) (by rfl) (by rfl) (by omega) (by omega) (by omega) (by omega) (by omega) (by omega) (by omega):bb q2 (dY (8) q2 q3 q6 q5 q7)=some (ARes.val (AV.slice 0 0 i 1 (some (n-i))) q2))<|Kh 2 hq<|Kv 4 (by exact ii (xs:=L++Z) (l:=0) (h:=i) (by kernel_rfl) (by rfl) (by rfl) (by omega) (by omega) (by omega) (by omega) (by omega) (by omega):bb (q) (dY (8) (q) q3 (none) q6 (none))=some (ARes.val q11 q))<|Kv 1 (by exact ii (xs:=L++Z) (l:=i+1) (h:=n) (by kernel_rfl) (by rfl) (by rfl) (by omega) (by omega) (by omega) (by omega) (by omega) (by omega):bb (q) (dY (8) (q) q3 q5 (none) (none))=some (ARes.val q4 q))<|Md rt (iY (tR 8 false 0 1 (oA:az (L++Z)=0))<|iY (tR 8 false 0 1 (oA:az (L++Z)=0)) rt) (by exact NZ (new:=L.drop (i+1)) rfl (zb rfl (Vh hn (by omega))) (rO hf) (fun e=>by have:=congrArg List.length e;grind) (by grind) (by grind) (aO (m:=2^20) (by grind) (by omega) (by omega)) (by grind) (Vi hn (by omega)):eg (co (8) (120) (q8) ((some q11)) ((some q4)))=some (ARes.val q9 (AHeap.put q8 0 (AObj.row 8 false 0 (L.eraseIdx i++(L.drop (n-1)++Z))))))<|Ko 4 (by exact ii (xs:=L.eraseIdx i++(L.drop (n-1)++Z)) (l:=n-1) (h:=n) (by kernel_rfl) (by rfl) (by rfl) (by omega) (by omega) (by omega) (by omega) (by omega) (by omega):bb q1 (dY (8) q1 ((some q9)) ((some (nV (n-1)))) q7 (none))=some (ARes.val q10 q1))<|Mo (by exact J5 rfl (by kernel_rfl) (ER hn (by omega)):eg (wa (8) (AV.agg [iV 0,iV 0,iV 0,iV 0,AV.str [],AV.nils,AV.nils,AV.nils]) q1 ((some q10)))=some (ARes.val (AV.tuple []) (ab [AObj.row 8 false 0 (L.eraseIdx i++zU::Z)])))<|Kf 1 a
theorem Sa(L Z:List AV)(k i:Nat)(hn:L.length=i+1)(hs:i<2^20)(hk:0<k)(hZ:Z.length=k)(hT:az (L++Z)=0):kD 228 [.slice 0 0 0 (i+1) (some (i+1+k)),nV i,nV (i+1)] (ab [dD (L++Z)]) (.slice 0 0 0 i (some (i+1+k))) (ab [dD (L.eraseIdx i++(zU::Z))]):=by
  have hq:af (Int.ofNat i) (Int.ofNat (i+1))=false:=Y9 (by omega)
  have hr:L.eraseIdx i++(L.drop (i+1-1)++Z)=L++Z:=by
    rw[Pz,Ck (by omega),dE,←mB,show i+1-1=i from rfl,KB]
  have hc:bv (L++Z) i (List.replicate 1 zU)=L.eraseIdx i++(zU::Z):=by
    have h:=ER (z:=zU) (Z:=Z) hn (show i<i+1 by omega)
    grind
  let q:=ab [aZ 8 false 0 (L++Z)];let q1:=AHeap.mk 1000000 (bD q ([0]) Tr.nil);let q2:=(some (nV (i+1)));let q3:=aM 0 0 0 i (some (i+1+k));let q4:=(some (aM 0 0 0 (i+1) (some (i+1+k))));let q5:=(some (nV i));let q6:=AHeap.mk 1 (bD q ([0,0]) Tr.nil);let q7:=aM 0 0 (i+1) 0 (some k);let q8:=aM 0 0 i 1 (some (k+1));exact eR Tryz.func228 fun a=>Ko 5 (by exact DS (xs:=L++Z) (l:=i) (h:=i+1) (m:=i+1) (by kernel_rfl) (by rfl) (by rfl) (by rfl) (by omega) (by omega) (by omega) (by omega) (by omega) (by omega) (by omega):bb q (dY (8) q q4 q5 q2 q2)=some (ARes.val (AV.slice 0 0 i 1 (some 1)) q))<|Kh 2 hq<|Kv 4 (by exact ii (xs:=L++Z) (l:=0) (h:=i) (by kernel_rfl) (by rfl) (by rfl) (by omega) (by omega) (by omega) (by omega) (by omega) (by omega):bb (q1) (dY (8) (q1) q4 (none) q5 (none))=some (ARes.val q3 q1))<|Kv 1 (by exact ii (xs:=L++Z) (l:=i+1) (h:=i+1) (by kernel_rfl) (by rfl) (by rfl) (by omega) (by omega) (by omega) (by omega) (by omega) (by omega):bb (q1) (dY (8) (q1) q4 q2 (none) (none))=some (ARes.val q7 q1))<|Md rt (iY (tR 8 false 0 1 (oA:az (L++Z)=0))<|iY (tR 8 false 0 1 (oA:az (L++Z)=0)) rt) (by exact S6 (zb rfl List.take_zero):eg (co (8) (120) (q6) ((some q3)) ((some q7)))=some (ARes.val q3 q6))<|Ko 4 (by exact ii (xs:=L++Z) (l:=i) (h:=i+1) (by kernel_rfl) (by rfl) (by rfl) (by omega) (by omega) (by omega) (by omega) (by omega) (by omega):bb q (dY (8) q ((some q3)) q5 q2 (none))=some (ARes.val q8 q))<|Mo (by exact J5 rfl (by kernel_rfl) hc:eg (wa (8) (AV.agg [iV 0,iV 0,iV 0,iV 0,AV.str [],AV.nils,AV.nils,AV.nils]) q ((some q8)))=some (ARes.val (AV.tuple []) (ab [AObj.row 8 false 0 (L.eraseIdx i++zU::Z)])))<|Kf 1 a
theorem Sy(L:List AV)(i:Nat)(hn:L.length=i+1)(hs:i<2^20)(hT:az L=0):kD 228 [.slice 0 0 0 (i+1) (some (i+1)),nV i,nV (i+1)] (ab [dD L]) (.slice 0 0 0 i (some (i+1))) (ab [dD (L.eraseIdx i++[zU])]):=by
  have hq:af (Int.ofNat i) (Int.ofNat (i+1))=false:=Y9 (by omega)
  have hr:L.eraseIdx i++(L.drop (i+1-1)++[])=L:=by
    rw[Pz,Ck (by omega),dE,dE,show i+1-1=i from rfl,KB]
  have hc:bv L i (List.replicate 1 zU)=L.eraseIdx i++[zU]:=by
    have h:=ER (z:=zU) (Z:=[]) hn (show i<i+1 by omega)
    grind
  let q:=ab [aZ 8 false 0 L];let q1:=AHeap.mk 1000000 (bD q ([0]) Tr.nil);let q2:=(some (nV (i+1)));let q3:=aM 0 0 0 i (some (i+1));let q4:=(some (aM 0 0 0 (i+1) (some (i+1))));let q5:=(some (nV i));let q6:=aM 0 0 i 1 (some 1);let q7:=AHeap.mk 1 (bD q ([0,0]) Tr.nil);let q8:=aM 0 0 0 0 (some 0);exact eR Tryz.func228 fun a=>Ko 5 (by exact DS (xs:=L) (l:=i) (h:=i+1) (m:=i+1) (by kernel_rfl) (by rfl) (by rfl) (by rfl) (by omega) (by omega) (by omega) (by omega) (by omega) (by omega) (by omega):bb q (dY (8) q q4 q5 q2 q2)=some (ARes.val q6 q))<|Kh 2 hq<|Kv 4 (by exact ii (xs:=L) (l:=0) (h:=i) (by kernel_rfl) (by rfl) (by rfl) (by omega) (by omega) (by omega) (by omega) (by omega) (by omega):bb (q1) (dY (8) (q1) q4 (none) q5 (none))=some (ARes.val q3 q1))<|Kv 1 (by exact LQ (xs:=L) (l:=i+1) (h:=i+1) (by kernel_rfl) (by rfl) (by rfl) (by rfl) rfl:bb (q1) (dY (8) (q1) q4 q2 (none) (none))=some (ARes.val q8 q1))<|Md rt (iY (tR 8 false 0 1 (oA:az (L)=0))<|iY (tR 8 false 0 1 (oA:az (L)=0)) rt) (by exact S6 (zb rfl List.take_zero):eg (co (8) (120) (q7) ((some q3)) ((some q8)))=some (ARes.val q3 q7))<|Ko 4 (by exact ii (xs:=L) (l:=i) (h:=i+1) (by kernel_rfl) (by rfl) (by rfl) (by omega) (by omega) (by omega) (by omega) (by omega) (by omega):bb q (dY (8) q ((some q3)) q5 q2 (none))=some (ARes.val q6 q))<|Mo (by exact J5 rfl (by kernel_rfl) hc:eg (wa (8) (AV.agg [iV 0,iV 0,iV 0,iV 0,AV.str [],AV.nils,AV.nils,AV.nils]) q ((some q6)))=some (ARes.val (AV.tuple []) (ab [AObj.row 8 false 0 (L.eraseIdx i++[zU])])))<|Kf 1 a
theorem Sv(L Z:List AV)(n i:Nat)(hi:i<n)(hn:L.length=n)(hs:n≤2^20)(hf:dg 8 L=true)(hT:az (L++Z)=0):kD 228 [.slice 0 0 0 n (some (n+Z.length)),nV i,nV (i+1)] (ab [dD (L++Z)]) (.slice 0 0 0 (n-1) (some (n+Z.length))) (ab [dD (L.eraseIdx i++(zU::Z))]):=by
  rcases fu (i+1) n with h|h
  · exact Sb L Z n _ i h hn hs hf rfl hT
  · obtain rfl:n=i+1:=by omega
    cases Z with
    |nil=>rw[dE];rw[dE]at hT;exact Sy L i hn (by omega) hT
    |cons z r=>exact Sa L (z::r) _ i hn (by omega) (yO _) rfl hT
/-- A list with an element more at a place. -/
def gG(i:Nat)(x:AV)(l:List AV):List AV:=l.take i++(x::l.drop i)
theorem An{i:Nat}{x:AV}{l:List AV}(h:i≤l.length):(gG i x l).length=l.length+1:=by
  grind[gG]
theorem G5{x:AV}{l:List AV}{n:Nat}(h:l.length=n):gG n x l=l++[x]:=by
  grind[gG]
theorem Zb(n:Nat):af (Int.ofNat n) (Int.ofNat n)=true:=bZ _
theorem aaH{a b:Nat}(h:a<b):aF (Int.ofNat a) (Int.ofNat b)=true:=kF (by simp_all)
theorem aaI{a b:Nat}(h:b≤a):aF (Int.ofNat a) (Int.ofNat b)=false:=iO (by simp_all)
theorem Vc{L Z:List AV}{x z:AV}{n:Nat}(h:L.length=n):bv (L++z::Z) (0+n) [x]=gG n x L++Z:=by
  unfold bv
  rw[G5 h,ei,←h,List.take_left,show(L++z::Z).drop (L.length+[x].length)=Z by rw[←yR,List.drop_left];rfl]
theorem Ue{L Z:List AV}{z:AV}{n i:Nat}(h:L.length=n)(hi:i<n):bv (L++z::Z) (i+1) (L.drop i)=L.take (i+1)++(L.drop i++Z):=by
  unfold bv
  rw[List.take_append_of_le_length (by omega),mB,wm,show i+1+(L.length-i)=L.length+1 by omega,←yR,List.drop_left];rfl
theorem QN{L Z:List AV}{x:AV}{n i:Nat}(h:L.length=n)(hi:i<n):bv (L.take (i+1)++(L.drop i++Z)) i [x]=gG i x L++Z:=by
  unfold bv gG
  grind
theorem Uk{L:List AV}{z x:AV}{n i:Nat}(h:L.length=n)(hi:i<n):bv (L.take i++List.replicate (n+1-i) z) i [x]=L.take i++(x::List.replicate (n-i) z):=by
  unfold bv
  have h1:(L.take i).length=i:=by grind
  have e:n+1-i=(n-i)+1:=by omega
  rw[List.take_append_of_le_length (by omega),Cv (by omega),←yR]
  simp_all
theorem QH{L:List AV}{z x:AV}{n i:Nat}(h:L.length=n)(hi:i<n):bv (L.take i++(x::List.replicate (n-i) z)) (i+1) (L.drop i)=gG i x L:=by
  unfold bv gG
  have h1:(L.take i).length=i:=by grind
  have h2:(L.take i++(x::List.replicate (n-i) z)).length=n+1:=by grind
  have e:(L.take i++(x::List.replicate (n-i) z)).drop (i+1+(L.drop i).length)=[]:=Ck (by grind)
  grind
theorem RU(L Z:List AV)(x z:AV)(t:Bool)(n k:Nat)(hn:L.length=n)(hs:n<2^20)(hk:Z.length=k)(hx:dg 8 [x]=true):kD 163 [.slice 0 0 0 n (some (n+(k+1))),nV n,.ps [x] t] (ab [dD (L++z::Z)]) (.slice 0 0 0 (n+1) (some (n+(k+1)))) (ab [dD (gG n x L++Z)]):=by
  have hq:=Zb n
  let q:=ab [aZ 8 false 0 (L++z::Z)];exact eR Tryz.func163 fun a=>Ko 2 (by exact ii (xs:=L++z::Z) (l:=n) (h:=n) (by kernel_rfl) (by rfl) (by rfl) (by omega) (by omega) (by omega) (by omega) (by omega) (by omega):bb q (dY (8) q ((some (AV.slice 0 0 0 n (some (n+(k+1)))))) ((some (nV n))) (none) (none))=some (ARes.val (AV.slice 0 0 n 0 (some (k+1))) q))<|Kt 11 hq<|Ko 1 (by exact NZ (new:=[x]) rfl (by rfl) hx (kN _ _) (by simp_all) (by simp_all) (aO (m:=2^20) (by grind) (by omega) (by omega)) rfl (Vc hn):eg (co (8) (120) (ab [AObj.row 8 false 0 (L++z::Z)]) ((some (AV.slice 0 0 0 n (some (n+(k+1)))))) ((some (AV.ps [x] t))))=some (ARes.val (AV.slice 0 0 0 (n+1) (some (n+(k+1)))) (ab [AObj.row 8 false 0 (gG n x L++Z)])))<|Kf 0 a
theorem RY(L:List AV)(x:AV)(t:Bool)(n:Nat)(hn:L.length=n)(hs:n<2^20)(hx:dg 8 [x]=true)(hT:az L=0)(hI:az (gG n x L)=0):kD 163 [.slice 0 0 0 n (some n),nV n,.ps [x] t] (ab [dD L]) (.ls (gG n x L)) (ab [dD L]):=by
  have hq:=Zb n
  have hIl:(gG n x L).length=n+1:=(An (by omega)).trans (by omega)
  let q:=ab [aZ 8 false 0 L];exact eR Tryz.func163 fun a=>Ko 2 (by exact LQ (xs:=L) (l:=n) (h:=n) (by kernel_rfl) (by rfl) (by rfl) (by rfl) rfl:bb q (dY (8) q ((some (AV.slice 0 0 0 n (some n)))) ((some (nV n))) (none) (none))=some (ARes.val (AV.slice 0 0 0 0 (some 0)) q))<|Kt 11 hq<|Ko 1 (by exact V3 (new:=[x]) rfl (by rfl) hx (kN _ _) (by simp_all) (aO (m:=2^20) (by grind) (by omega) (by omega)) (by grind[G5]) ((An (by omega)).trans (by omega)):eg (co (8) (120) (ab [AObj.row 8 false 0 L]) ((some (AV.slice 0 0 0 n (some n)))) ((some (AV.ps [x] t))))=some (ARes.val (AV.slice 1 0 0 (n+1) none) (ab [AObj.row 8 false 0 L,AObj.row 8 true 0 (gG n x L)])))<|Mg 0<|M2 (.fsl 1 [] 6<|gG n x L) (et (tR 8 false 0 1 (oA:az (L)=0)) ti) (ca (aK 0) (WV (oA:(gG n x L).length=n+1)) (oA:az (gG n x L)=0))<|Ml 6 (fm (gG n x L) false (oA:az (gG n x L)=0))<|Mf a
theorem RV(L Z:List AV)(x z:AV)(t:Bool)(n k i:Nat)(hi:i<n)(hn:L.length=n)(hs:n<2^20)(hk:Z.length=k)(hx:dg 8 [x]=true)(hf:dg 8 L=true)(hT:az (L++z::Z)=0)(hov:kD 225 [.ps [x] t,.slice 0 0 (i+1) (n-i) (some (n+(k+1)-(i+1)))] (ab [dD (L++z::Z)]) (.bool false) (ab [dD (L++z::Z)])):kD 163 [.slice 0 0 0 n (some (n+(k+1))),nV i,.ps [x] t] (ab [dD (L++z::Z)]) (.slice 0 0 0 (n+1) (some (n+(k+1)))) (ab [dD (gG i x L++Z)]):=by
  have hq:af (Int.ofNat i) (Int.ofNat n)=false:=Y9 (by omega)
  have hl:aF (Int.ofNat (n+(k+1))) (Int.ofNat (n+1))=false:=aaI (by omega)
  let q:=ab [aZ 8 false 0 (L++z::Z)];let q1:=ab [aZ 8 false 0 (L.take (i+1)++(L.drop i++Z))];let q2:=AHeap.mk 1000000 (bD q ([0]) Tr.nil);let q3:=aM 0 0 0 (n+1) (some (n+(k+1)));let q4:=aM 0 0 i (n+1-i) (some (n+(k+1)-i));let q5:=(some (nV i));let q6:=aM 0 0 (i+1) (n-i) (some (n+(k+1)-(i+1)));let q7:=(some (nV (i+1)));let q8:=(some (aM 0 0 0 n (some (n+(k+1)))));exact eR Tryz.func163 fun a=>Ko 2 (by exact ii (xs:=L++z::Z) (l:=i) (h:=n) (by kernel_rfl) (by rfl) (by rfl) (by omega) (by omega) (by omega) (by omega) (by omega) (by omega):bb q (dY (8) q q8 q5 (none) (none))=some (ARes.val (AV.slice 0 0 i (n-i) (some (n+(k+1)-i))) q))<|Kh 11 hq<|Kl 2 28 (jk n)<|Kh 2 hl<|Kl 3 59 (jk n)<|Mo (by exact ii (xs:=L++z::Z) (l:=0) (h:=n+1) (by kernel_rfl) (by rfl) (by rfl) (by omega) (by omega) (by omega) (by omega) (by omega) (by omega):bb q (dY (8) q q8 (none) ((some (nV (n+1)))) (none))=some (ARes.val q3 q))<|Kl 5 65 (jk i)<|Mo (by exact ii (xs:=L++z::Z) (l:=i+1) (h:=n+1) (by kernel_rfl) (by rfl) (by rfl) (by omega) (by omega) (by omega) (by omega) (by omega) (by omega):bb q (dY (8) q ((some q3)) q7 (none) (none))=some (ARes.val q6 q))<|Me hov<|Mg 4<|Ma (jk i)<|Mv (by exact ii (xs:=L++z::Z) (l:=i+1) (h:=n+1) (by kernel_rfl) (by rfl) (by rfl) (by omega) (by omega) (by omega) (by omega) (by omega) (by omega):bb (q2) (dY (8) (q2) ((some q3)) q7 (none) (none))=some (ARes.val q6 q2))<|Kv 1 (by exact ii (xs:=L++z::Z) (l:=i) (h:=n+1) (by kernel_rfl) (by rfl) (by rfl) (by omega) (by omega) (by omega) (by omega) (by omega) (by omega):bb (q2) (dY (8) (q2) ((some q3)) q5 (none) (none))=some (ARes.val q4 q2))<|Md rt (iY (tR 8 false 0 1 (oA:az (L++z::Z)=0))<|iY (tR 8 false 0 1 (oA:az (L++z::Z)=0)) rt) (by exact MD (zs:=((L++z::Z).drop i).take (n+1-i)) rfl (zb rfl rfl) (by grind[rO]) (by grind) (by grind[Ue]):eg (vX (8) ((AHeap.mk 1 (bD (ab [AObj.row 8 false 0 (L++z::Z)]) ([0,0]) Tr.nil))) ((some (AV.slice 0 0 (i+1) (n-i) (some (n+(k+1)-(i+1)))))) ((some (AV.slice 0 0 i (n+1-i) (some (n+(k+1)-i))))))=some (ARes.val (nV (n-i)) (AHeap.put (AHeap.mk 1 (bD (ab [AObj.row 8 false 0 (L++z::Z)]) ([0,0]) Tr.nil)) 0 (AObj.row 8 false 0 (L.take (i+1)++(L.drop i++Z))))))<|Ko 1 (by exact ii (xs:=L.take (i+1)++(L.drop i++Z)) (l:=i) (h:=n+1) (by kernel_rfl) (by rfl) (by rfl) (by omega) (by omega) (by omega) (by omega) (by omega) (by omega):bb q1 (dY (8) q1 ((some q3)) q5 (none) (none))=some (ARes.val q4 q1))<|Ko 0 (by exact MD (zs:=[x]) rfl (by rfl) (rN hx) (by grind) (by grind[List.take_of_length_le,QN]):eg (vX (8) q1 ((some q4)) ((some (AV.ps [x] t))))=some (ARes.val (iV 1) (ab [AObj.row 8 false 0 (gG i x L++Z)])))<|Kf 1 a
theorem RK(L:List AV)(x:AV)(t:Bool)(n i:Nat)(hi:i<n)(hn:L.length=n)(hs:n<2^20)(hx:dg 8 [x]=true)(hf:dg 8 L=true)(hT:az L=0)(hT2:az (L.take i++(x::List.replicate (n-i) zU))=0)(hI:az (gG i x L)=0):kD 163 [.slice 0 0 0 n (some n),nV i,.ps [x] t] (ab [dD L]) (.ls (gG i x L)) (ab [dD L]):=by
  have hq:af (Int.ofNat i) (Int.ofNat n)=false:=Y9 (by omega)
  have hl:aF (Int.ofNat n) (Int.ofNat (n+1))=true:=aaH (by omega)
  have hIl:(gG i x L).length=n+1:=(An (by omega)).trans (by omega)
  let q:=ab [aZ 8 false 0 L,aZ 8 true 0 (L.take i++x::List.replicate (n-i) zU)];let q1:=ab [aZ 8 false 0 L,aZ 8 true 0 (L.take i++List.replicate (n+1-i) zU)];let q2:=ab [aZ 8 false 0 L];let q3:=(some (nV i));let q4:=AHeap.mk 1000000 (bD q ([0]) Tr.nil);let q5:=aM 0 0 i (n-i) (some (n-i));let q6:=(some (aM 0 0 0 n (some n)));let q7:=AHeap.mk 2 (bD q ([1,0]) Tr.nil);let q8:=aM 1 0 i (n+1-i) none;let q9:=aM 1 0 0 (n+1) none;let q10:=aM 0 0 0 i (some n);exact eR Tryz.func163 fun a=>Ko 2 (by exact ii (xs:=L) (l:=i) (h:=n) (by kernel_rfl) (by rfl) (by rfl) (by omega) (by omega) (by omega) (by omega) (by omega) (by omega):bb q2 (dY (8) q2 q6 q3 (none) (none))=some (ARes.val q5 q2))<|Kh 11 hq<|Kl 2 28 (jk n)<|Kt 2 hl<|Ko 1 (by exact ii (xs:=L) (l:=0) (h:=i) (by kernel_rfl) (by rfl) (by rfl) (by omega) (by omega) (by omega) (by omega) (by omega) (by omega):bb q2 (dY (8) q2 q6 (none) q3 (none))=some (ARes.val q10 q2))<|Kl 2 37 (jk n)<|Ko 0 (by(show bb _ (some (AV.int .i64 (IntKind.i64.wrap (Int.ofNat (n+1)-Int.ofNat i))))=_;rw[show(Int.ofNat (n+1)-Int.ofNat i)=Int.ofNat (n+1-i) by grind,yq (by simp_all) (by grind)];rfl):bb (ab [AObj.row 8 false 0 L]) (Tl (qX BinOp.sub (Tryz.prog.underlying 3) (cM Tryz.prog 3) (cP Tryz.prog 3) (dS Tryz.prog 10 3 0)) ((some (nV (n+1)))) ((some (nV i))))=some (ARes.val (nV (n+1-i)) (ab [AObj.row 8 false 0 L])))<|Mo (by exact Uc rfl (by omega) (by omega) (by kernel_rfl) (aO (m:=2^21) (by omega) (by omega) (by omega)) (aO (m:=2^21) (by omega) (by omega) (by omega)) (by simp_all) (by grind):eg (xq (8) (120) (AV.agg [iV 0,iV 0,iV 0,iV 0,AV.str [],AV.nils,AV.nils,AV.nils]) q2 ((some q10)) ((some (nV (n+1-i)))))=some (ARes.val q9 q1))<|Ko 2 (by exact K9 (xs:=L.take i++List.replicate (n+1-i) zU) (l:=i) (h:=n+1) (by kernel_rfl) (by rfl) (by rfl) (by omega) (by grind) (by omega) (by omega):bb q1 (dY (8) q1 ((some q9)) q3 (none) (none))=some (ARes.val q8 q1))<|Ko 0 (by exact MD (zs:=[x]) rfl (by rfl) (rN hx) (by grind) (by grind[List.take_of_length_le,Uk]):eg (vX (8) q1 ((some q8)) ((some (AV.ps [x] t))))=some (ARes.val (iV 1) q))<|Mg 2<|Ma (jk i)<|Mv (by exact K9 (xs:=L.take i++(x::List.replicate (n-i) zU)) (l:=i+1) (h:=n+1) (by kernel_rfl) (by rfl) (by rfl) (by omega) (by grind) (by omega) (by omega):bb ((AHeap.mk 1000000 (bD (ab [AObj.row 8 false 0 L,AObj.row 8 true 0 (L.take i++x::List.replicate (n-i) zU)]) ([1]) Tr.nil))) (dY (8) ((AHeap.mk 1000000 (bD (ab [AObj.row 8 false 0 L,AObj.row 8 true 0 (L.take i++x::List.replicate (n-i) zU)]) ([1]) Tr.nil))) ((some (AV.slice 1 0 0 (n+1) none))) ((some (nV (i+1)))) (none) (none))=some (ARes.val (AV.slice 1 0 (i+1) (n-i) none) (AHeap.mk 1000000 (bD (ab [AObj.row 8 false 0 L,AObj.row 8 true 0 (L.take i++x::List.replicate (n-i) zU)]) ([1]) Tr.nil))))<|Kv 1 (by exact ii (xs:=L) (l:=i) (h:=n) (by kernel_rfl) (by rfl) (by rfl) (by omega) (by omega) (by omega) (by omega) (by omega) (by omega):bb (q4) (dY (8) (q4) q6 q3 (none) (none))=some (ARes.val q5 q4))<|Md rt (iY (tR 8 true 0 2 (oA:az (L.take i++x::List.replicate (n-i) zU)=0))<|iY (tR 8 false 0 2 (oA:az (L)=0)) rt) (by exact MD (zs:=L.drop i) rfl (zb rfl (Cv (by simp_all))) (rN (rO hf)) (by simp_all) (by grind[List.length_drop,QH]):eg (vX (8) (q7) ((some (AV.slice 1 0 (i+1) (n-i) none))) ((some q5)))=some (ARes.val (nV (n-i)) (AHeap.put q7 1 (AObj.row 8 true 0 (gG i x L)))))<|Mg 1<|M2 (.fsl 1 [] 6<|gG i x L) (et (tR 8 false 0 1 (oA:az (L)=0)) ti) (ca (aK 0) (WV (oA:(gG i x L).length=n+1)) (oA:az (gG i x L)=0))<|Ml 6 (fm (gG i x L) false (oA:az (gG i x L)=0))<|Mf a
theorem G3(x:TUnit)(t:Bool):kP 163 [.nils,iV 0,.ps [eU x] t] (.ls [eU x]):=by
  have hx:dg 8 [eU x]=true:=by kernel_rfl
  have hIl:[eU x].length=1:=rfl
  have hI:az [eU x]=0:=by kernel_rfl
  let q:=[ax [iV x.act,iV x.item,iV x.n,iV x.kind,aV x.label,aW (x.head.map aQ),aW (x.words.map aQ),aW (x.kids.map aY)]];exact bG Tryz.func163<|Ko 18 (by(simp only[co,fG,kX,ki,gk,hx];rfl):eg (co (8) (120) (ab []) ((some (AV.nils))) ((some (AV.ps [AV.agg [iV x.act,iV x.item,iV x.n,iV x.kind,AV.str x.label,AV.ls (x.head.map aQ),AV.ls (x.words.map aQ),AV.ls (x.kids.map aY)]] t))))=some (ARes.val (AV.slice 0 0 0 1 none) (ab [AObj.row 8 true 0 [eU x]])))<|K1 0 (.frz 0 [6]) ti<|Mf (fm q _<|by rfl:Le _ (AV.ps q false))
theorem G2(x:TUnit)(t:Bool):kP 163 [.ps [] true,iV 0,.ps [eU x] t] (.ls [eU x]):=by
  have hx:dg 8 [eU x]=true:=by kernel_rfl
  have hIl:[eU x].length=1:=rfl
  have hI:az [eU x]=0:=by kernel_rfl
  let q:=[ax [iV x.act,iV x.item,iV x.n,iV x.kind,aV x.label,aW (x.head.map aQ),aW (x.words.map aQ),aW (x.kids.map aY)]];exact bG Tryz.func163<|Ko 18 (by(simp only[co,fG,kX,ki,gk,hx];rfl):eg (co (8) (120) (ab []) ((some (AV.ps [] true))) ((some (AV.ps [AV.agg [iV x.act,iV x.item,iV x.n,iV x.kind,AV.str x.label,AV.ls (x.head.map aQ),AV.ls (x.words.map aQ),AV.ls (x.kids.map aY)]] t))))=some (ARes.val (AV.slice 0 0 0 1 none) (ab [AObj.row 8 true 0 [eU x]])))<|K1 0 (.frz 0 [6]) ti<|Mf (fm q _<|by rfl:Le _ (AV.ps q false))
noncomputable def KP:TypeInfo:=(Tryz.prog.info? 38).getD default
theorem Ps:Tryz.prog.info? 38=some KP:=by kernel_rfl
/-- A unit of zero values says no more than the zero value. -/
theorem Ys:Le (aY bf) zU:=bQ (.cons (Le.refl _) (.cons (Le.refl _) (.cons (Le.refl _) (.cons (Le.refl _) (.cons (Le.refl _) (.cons Le.nils (.cons Le.nils (.cons Le.nils .nil)))))))) rfl
theorem IM:KP.size=8:=by kernel_rfl
theorem FB:KP.bytes=120:=by kernel_rfl
theorem Zy(l:List TUnit):dg 8 (l.map aY)=true:=fD (fun u=>by cases u;rfl) l
/-- A copy of units: a row of its own, which holds zero values behind them. -/
theorem ES(xs:List TUnit)(hne:xs≠[])(hl:xs.length≤2^20)(a b c:AObj):kC 224 [.ls (xs.map aY)] (ab [a,b,c])
    (fun v h=>∃k:Nat,True∧v=.slice 3 0 0 xs.length (some (xs.length+k))∧h=ab [a,b,c,dD ((xs++List.replicate k bf).map aY)]):=by
  simp only[qY,List.map_replicate]
  have hn:xs.map aY≠[]:=fun h=>hne (List.map_eq_nil_iff.1 h)
  have hf:=Zy xs
  have hsm:small (xs.map aY).length 120=true:=by grind[aO]
  have hlen:xs.length=(xs.map aY).length:=(cZ ..).symm
  rw[hlen]
  generalize xs.map aY=L at hn hf hsm
  refine aL.enter 2 (fn:=Tryz.f224) Tryz.func224 (by kernel_rfl) rfl ⟨by kernel_rfl,by kernel_rfl⟩ ?_
  refine aD.seq (aD.mono (Eo oq fz (ev 40) (s':=⟨eX 8 [(0,.ls L),(2,.nils)],ab [a,b,c]⟩) (.go 0 .fin) (by kernel_rfl)) ?_)
  rintro _ _ ⟨rfl,rfl⟩
  refine aD.seq (aD.seq (aD.mono (yh fz (ev 40) (Ψ:=fun s=>s=⟨eX 8 [(0,.ls L),(2,.nils),(3,.ps L false),(4,.bool false)],ab [a,b,c]⟩) (.go 0 (.nz 3 .abs (.go 0 .fin)))
    (W:=(L=[]→False)∧(⟨eX 8 [(0,.ls L),(2,.nils),(3,.ps L false),(4,.bool false)],ab [a,b,c]⟩:St)=⟨eX 8 [(0,.ls L),(2,.nils),(3,.ps L false),(4,.bool false)],ab [a,b,c]⟩) ⟨hn,rfl⟩ (by kernel_rfl)) ?_))
  rintro _ _ ⟨rfl,rfl⟩
  refine aD.cond (t:=false) (by kernel_rfl) (fun h=>by grind) fun _=>aD.skip ?_
  refine aD.seq (aD.region ?_)
  show ce _ _ _ _ [_,_,_,_] _ _
  refine ce.one (s':=⟨eX 8 [(0,.ls L),(2,.nils),(3,.ps L false),(4,.bool false),(5,.ps [] true)],ab [a,b,c]⟩) (ev 40) (by kernel_rfl) ?_
  refine ce.one (s':=⟨eX 8 [(0,.ls L),(2,.nils),(3,.ps L false),(4,.bool false),(5,.ps [] true),(6,.ls L)],ab [a,b,c]⟩) (ev 40) (by kernel_rfl) ?_
  refine sV (I:=fun _=>True) (r:=fun k:Nat=>.slice 3 0 0 L.length (some (L.length+k))) (H:=fun k=>ab [a,b,c,.row 8 false 0 (L++List.replicate k (aY bf))]) (by kernel_rfl)
    (fun pl M a w g1 g2 g3=>vw (z:=aY bf) (z0:=zU) (xs:=L) (t:=36) (tx:=36) (e:=38) (i:=KP) IM FB (by kernel_rfl) ⟨38,by kernel_rfl⟩ Ps (by kernel_rfl) Ys (by kernel_rfl) (by kernel_rfl) hn hf (by kernel_rfl) hsm (by omega) pl M a w g1 g2 g3) fun k _=>?_
  refine⟨eX 8 [(0,.ls L),(2,.nils),(3,.ps L false),(4,.bool false),(5,.ps [] true),(6,.ls L),(7,.slice 3 0 0 L.length (some (L.length+k)))],by kernel_rfl,?_⟩
  refine ce.one (s':=⟨eX 8 [(0,.ls L),(2,.slice 3 0 0 L.length (some (L.length+k))),(3,.ps L false),(4,.bool false),(5,.ps [] true),(6,.ls L),(7,.slice 3 0 0 L.length (some (L.length+k)))],ab [a,b,c,.row 8 false 0 (L++List.replicate k (aY bf))]⟩) (ev 40) (by kernel_rfl) (ce.nil (aD.ret ⟨fun id h=>(by grind),.slice 3 0 0 L.length (some (L.length+k)),by kernel_rfl,k,trivial,by kernel_rfl,by kernel_rfl⟩))
/-- The unit that a closure changes: its kids are 'K'. -/
noncomputable abbrev dC(u:TUnit)(K:AV):AObj:=.row 8 false 0 [.agg [iV u.act,iV u.item,iV u.n,iV u.kind,.str u.label,.ls (u.head.map aQ),.ls (u.words.map aQ),K]]
theorem YA(u:TUnit)(n c i:Nat)(R R':List AV)(hT:az R=0)(hT2:az R'=0)(hi:i<n)(hs:n≤2^20)(hD:kD 228 [.slice 1 0 0 n (some c),nV i,nV (i+1)] (ab [dC u (.slice 1 0 0 n (some c)),dD R]) (.slice 1 0 0 (n-1) (some c)) (ab [dC u (.slice 1 0 0 n (some c)),dD R'])):
    kD 227 [.ptr 0 0 0 0,.pptr [nV i] 0 0] (ab [dC u (.slice 1 0 0 n (some c)),dD R]) (.tuple []) (ab [dC u (.slice 1 0 0 (n-1) (some c)),dD R']):=by
  exact eR Tryz.func227 fun a=>Mg 6<|Ma (jk i)<|M3 (.efx false (aM 1 0 0 (n-1)<|some c)<|ab [aZ 8 false 0 [ax [iV u.act,iV u.item,iV u.n,iV u.kind,aV u.label,aW<|u.head.map aQ,aW<|u.words.map aQ,aM 1 0 0 n<|some c]],aZ 8 false 0 R']) (ca (tR 8 false 0 2 (oA:az (R)=0)) rt ti) ti hD<|Kf 2 a
theorem Xt(u x:TUnit)(n c i:Nat)(R R':List AV)(hT:az R=0)(hT2:az R'=0)(hD:kD 163 [.slice 1 0 0 n (some c),nV i,.ps [eU x] true] (ab [dC u (.slice 1 0 0 n (some c)),dD R]) (.slice 1 0 0 (n+1) (some c)) (ab [dC u (.slice 1 0 0 n (some c)),dD R'])):
    kD 162 [.ptr 0 0 0 0,.pptr [nV i] 0 0,.pptr [eU x] 0 0] (ab [dC u (.slice 1 0 0 n (some c)),dD R]) (.tuple []) (ab [dC u (.slice 1 0 0 (n+1) (some c)),dD R']):=by
  exact eR Tryz.func162 fun a=>Mg 7<|M3 (.efx false (aM 1 0 0 (n+1)<|some c)<|ab [aZ 8 false 0 [ax [iV u.act,iV u.item,iV u.n,iV u.kind,aV u.label,aW<|u.head.map aQ,aW<|u.words.map aQ,aM 1 0 0 n<|some c]],aZ 8 false 0 R']) (ca (tR 8 false 0 2 (oA:az (R)=0)) rt ti) ti hD<|Kf 2 a
theorem Xs(u x:TUnit)(n c i:Nat)(R Y:List AV)(hT:az R=0)(hD:kD 163 [.slice 1 0 0 n (some c),nV i,.ps [eU x] true] (ab [dC u (.slice 1 0 0 n (some c)),dD R]) (.ls Y) (ab [dC u (.slice 1 0 0 n (some c)),dD R])):
    kD 162 [.ptr 0 0 0 0,.pptr [nV i] 0 0,.pptr [eU x] 0 0] (ab [dC u (.slice 1 0 0 n (some c)),dD R]) (.tuple []) (ab [dC u (.ls Y),dD R]):=by
  let q:=[ax [iV u.act,iV u.item,iV u.n,iV u.kind,aV u.label,aW (u.head.map aQ),aW (u.words.map aQ),aM 1 0 0 n (some c)]];exact eR Tryz.func162 fun a=>Mg 7<|M3 (.efx true (aW Y)<|ab [aZ 8 false 0 q,aZ 8 false 0 R]) (ca (tR 8 false 0 2 (oA:az (R)=0)) rt ti) (ca (aK<|some<|aZ 8 false 0 R) (aK<|some<|aZ 8 false 0 q) ti) hD<|Kf 2 a
theorem Xr(u x:TUnit)(Y:List AV)(hD:kP 163 [.nils,iV 0,.ps [eU x] true] (.ls Y)):
    kD 162 [.ptr 0 0 0 0,.pptr [iV 0] 0 0,.pptr [eU x] 0 0] (ab [dC u .nils]) (.tuple []) (ab [dC u (.ls Y)]):=by
  exact eR Tryz.func162 fun a=>Kp 7 hD<|Kf 2 a
theorem Xp(u x:TUnit)(Y:List AV)(hD:kP 163 [(.ps [] true),iV 0,.ps [eU x] true] (.ls Y)):
    kD 162 [.ptr 0 0 0 0,.pptr [iV 0] 0 0,.pptr [eU x] 0 0] (ab [dC u (.ps [] true)]) (.tuple []) (ab [dC u (.ls Y)]):=by
  exact eR Tryz.func162 fun a=>Kp 7 hD<|Kf 2 a
theorem Xv(u x:TUnit)(n c i:Nat)(R R':List AV)(hT:az R=0)(hT2:az R'=0)(hD:kD 163 [.slice 1 0 0 n (some c),nV i,.ps [eU x] true] (ab [dC u (.slice 1 0 0 n (some c)),dD R]) (.slice 1 0 0 (n+1) (some c)) (ab [dC u (.slice 1 0 0 n (some c)),dD R'])):
    kD 173 [.ptr 0 0 0 0,.pptr [nV i] 0 0,.pptr [eU x] 0 0] (ab [dC u (.slice 1 0 0 n (some c)),dD R]) (.tuple []) (ab [dC u (.slice 1 0 0 (n+1) (some c)),dD R']):=by
  exact eR Tryz.func173 fun a=>Mg 7<|M3 (.efx false (aM 1 0 0 (n+1)<|some c)<|ab [aZ 8 false 0 [ax [iV u.act,iV u.item,iV u.n,iV u.kind,aV u.label,aW<|u.head.map aQ,aW<|u.words.map aQ,aM 1 0 0 n<|some c]],aZ 8 false 0 R']) (ca (tR 8 false 0 2 (oA:az (R)=0)) rt ti) ti hD<|Kf 2 a
theorem Xw(u x:TUnit)(n c i:Nat)(R Y:List AV)(hT:az R=0)(hD:kD 163 [.slice 1 0 0 n (some c),nV i,.ps [eU x] true] (ab [dC u (.slice 1 0 0 n (some c)),dD R]) (.ls Y) (ab [dC u (.slice 1 0 0 n (some c)),dD R])):
    kD 173 [.ptr 0 0 0 0,.pptr [nV i] 0 0,.pptr [eU x] 0 0] (ab [dC u (.slice 1 0 0 n (some c)),dD R]) (.tuple []) (ab [dC u (.ls Y),dD R]):=by
  let q:=[ax [iV u.act,iV u.item,iV u.n,iV u.kind,aV u.label,aW (u.head.map aQ),aW (u.words.map aQ),aM 1 0 0 n (some c)]];exact eR Tryz.func173 fun a=>Mg 7<|M3 (.efx true (aW Y)<|ab [aZ 8 false 0 q,aZ 8 false 0 R]) (ca (tR 8 false 0 2 (oA:az (R)=0)) rt ti) (ca (aK<|some<|aZ 8 false 0 R) (aK<|some<|aZ 8 false 0 q) ti) hD<|Kf 2 a
theorem Xk(u x:TUnit)(Y:List AV)(hD:kP 163 [.nils,iV 0,.ps [eU x] true] (.ls Y)):
    kD 173 [.ptr 0 0 0 0,.pptr [iV 0] 0 0,.pptr [eU x] 0 0] (ab [dC u .nils]) (.tuple []) (ab [dC u (.ls Y)]):=by
  exact eR Tryz.func173 fun a=>Kp 7 hD<|Kf 2 a
theorem Xj(u x:TUnit)(Y:List AV)(hD:kP 163 [(.ps [] true),iV 0,.ps [eU x] true] (.ls Y)):
    kD 173 [.ptr 0 0 0 0,.pptr [iV 0] 0 0,.pptr [eU x] 0 0] (ab [dC u (.ps [] true)]) (.tuple []) (ab [dC u (.ls Y)]):=by
  exact eR Tryz.func173 fun a=>Kp 7 hD<|Kf 2 a
theorem Yt(u:TUnit)(l:List PWord):kD 166 [.ptr 0 0 0 0,.pptr [.ls (l.map aQ)] 0 0] (ab [dC u (.ls (u.kids.map aY))]) (.tuple []) (ab [dC (mq l u) (.ls (u.kids.map aY))]):=by
  exact eR Tryz.func166 fun a=>Kf 4 a
theorem YP(u:TUnit)(l:List PWord):kD 168 [.ptr 0 0 0 0,.pptr [.ls (l.map aQ)] 0 0] (ab [dC u (.ls (u.kids.map aY))]) (.tuple []) (ab [dC (mq l u) (.ls (u.kids.map aY))]):=by
  exact eR Tryz.func168 fun a=>Kf 4 a
theorem Zx(u:TUnit)(l:List PWord):kD 170 [.ptr 0 0 0 0,.pptr [.ls (l.map aQ)] 0 0] (ab [dC u (.ls (u.kids.map aY))]) (.tuple []) (ab [dC (Ar l u) (.ls (u.kids.map aY))]):=by
  exact eR Tryz.func170 fun a=>Kf 4 a
theorem YN(u:TUnit)(d:PDeed):kD 172 [.ptr 0 0 0 0,.pptr [aq d] 0 0] (ab [dC u (.ls (u.kids.map aY))]) (.tuple []) (ab [dC (pb d.it.label u) (.ls (u.kids.map aY))]):=by
  exact eR Tryz.func172 fun a=>Kf 6 a
noncomputable abbrev vP(p:PId):AObj:=.row 3 false 0 [aU p]
noncomputable abbrev zO:AObj:=.row 8 false 0 [zU]
theorem H7:kP 224 [.nils] .nils:=by
  exact wk Tryz.func224 (.go 4 .fin)<|bh al
theorem H6:kP 224 [.ps [] false] (.ps [] true):=by
  exact wk Tryz.func224 (.go 7 .fin)<|bh<|iF [] true
theorem Sn(w:TUnit)(r:List TUnit)(hl:r.length<2^20):kP 224 [.ls ((w::r).map aY)] (.ls ((w::r).map aY)):=by
  let q:=List.map aY (w::r);exact bG Tryz.func224<|Mg 1<|Mz 3 (fun(a:((w::r).map aY:List AV)=[])=>Mw .abs<|kN _ _ a)<|Mg 3<|M2 .apl (et (sA:List.map aY (w::r)≠[])<|fD (sz:=8) (f:=aY) (fun _=>by(rw[aT];rfl))<|w::r) (by(refine aO (m:=2^21) ?_ ?_ ?_<;>first|omega|grind):small ((w::r).map aY).length 120=true)<|Mg 0<|M2 (.fsl 0 [] 2 q) ti (ca (aK 0) (tA aY (w::r) q.length (sA:(w::r).length=((w::r).map aY).length))<|aX iw<|w::r)<|Ml 2 (fm q false<|aX iw<|w::r)<|Mf<|bh<|aW q
theorem Dn(l:List TUnit)(hl:l.length≤2^20):kP 224 [.ls (l.map aY)] (.ls (l.map aY)):=by
  cases l with
  |nil=>exact aC.ls0 (H7.less Le.nils) (H6.lessB (u:=.ls []) (by kernel_rfl))
  |cons w r=>grind[Sn]
/-- The unit is found; its kids stay what they are. -/
theorem yu(g:Nat)(bs:List AV)(p:PId)(u u2:TUnit)(hA:az [eU u,aU p,.func (.func g) [] bs]=0)(hp:(af u.act p.a&&(af u.item p.i&&af u.n p.n))=true)(hl:u.kids.length≤2^20)(hd:kD g (.ptr 0 0 0 0::bs) (ab [dC u (.ls (u.kids.map aY)),vP p,zO]) (.tuple []) (ab [dC u2 (.ls (u2.kids.map aY)),vP p,zO])):kP 161 [eU u,aU p,.func (.func g) [] bs] (eU u2):=by
  have hc:=Dn u.kids hl
  let q:=[iV p.a,iV p.i,iV p.n];exact bG (ht:=oA) Tryz.func161<|Kv 5 (lr ((Tryz.prog).underlying 34) u.act u.item u.n p.a p.i p.n<|ab [aZ 8 false 0 [ax [iV u.act,iV u.item,iV u.n,iV u.kind,aV u.label,aW<|u.head.map aQ,aW<|u.words.map aQ,aW<|u.kids.map aY]],aZ 3 false 0 [ax q],aZ 8 false 0 [ax [iV 0,iV 0,iV 0,iV 0,aV [],al,al,al]]])<|Mt hp<|Kp 1 hc<|Ke 2 hd<|Kf 1<|bh<|ax [iV u2.act,iV u2.item,iV u2.n,iV u2.kind,aV u2.label,aW<|u2.head.map aQ,aW<|u2.words.map aQ,aW<|u2.kids.map aY]
/-- The unit is found; it has kids; in its own row something is done. -/
theorem U4(g:Nat)(bs:List AV)(p:PId)(u u2:TUnit)(n2:Nat)(Z:Nat→List AV)(hA:az [eU u,aU p,.func (.func g) [] bs]=0)(hp:(af u.act p.a&&(af u.item p.i&&af u.n p.n))=true)(hl:u.kids.length≤2^20)(hne:u.kids≠[])(hn2:u2.kids.length=n2)(hd:∀k,kD g (.ptr 0 0 0 0::bs) (ab [dC u (.slice 3 0 0 u.kids.length (some (u.kids.length+k))),vP p,zO,dD ((u.kids++List.replicate k bf).map aY)]) (.tuple []) (ab [dC u2 (.slice 3 0 0 n2 (some (u.kids.length+k))),vP p,zO,dD (u2.kids.map aY++Z k)])):kP 161 [eU u,aU p,.func (.func g) [] bs] (eU u2):=by
  let q:=[ax [iV u.act,iV u.item,iV u.n,iV u.kind,aV u.label,aW (u.head.map aQ),aW (u.words.map aQ),aW (u.kids.map aY)]];let q1:=[iV p.a,iV p.i,iV p.n];let q2:=[ax [iV 0,iV 0,iV 0,iV 0,aV [],al,al,al]];let q3:=List.map aY u2.kids;exact bG (ht:=oA) Tryz.func161<|Kv 5 (lr ((Tryz.prog).underlying 34) u.act u.item u.n p.a p.i p.n<|ab [aZ 8 false 0 q,aZ 3 false 0 [ax q1],aZ 8 false 0 q2])<|Mt hp<|Mg 1<|Mq (ES u.kids hne hl (aZ 8 false 0 q) (aZ 3 false 0 [ax q1])<|aZ 8 false 0 q2) fun a _=>Ke 2 (hd a)<|M2 (.fza 0 7 3 [3,6] q3) (jd rt rt rt ti) (ca (aK 0) (WY (xs:=List.map aY u2.kids) (ys:=Z a) (n:=n2) sA)<|aX iw u2.kids)<|Kf 1<|bh<|ax [iV u2.act,iV u2.item,iV u2.n,iV u2.kind,aV u2.label,aW<|u2.head.map aQ,aW<|u2.words.map aQ,aW q3]
theorem VZ{l m:List TUnit}{i:Nat}(h:i<l.length):gD (l++m) i=gD l i:=by
  grind[gD]
theorem uZ{l m:List TUnit}{i n:Nat}{x:TUnit}(h:l.length=n)(hi:i<n):((l++m).set i x).take n=l.set i x:=by
  simp_all
theorem TJ{l m:List TUnit}{n:Nat}(h:l.length=n):(l++m).take n=l:=by simp_all
theorem MU{l:List TUnit}{i:Nat}(h:i<l.length):l.drop i=gD l i::l.drop (i+1):=by
  grind[List.drop_eq_getElem_cons,gD]
theorem YD{p:PId}{f:TUnit→TUnit}{l:List TUnit}{i:Nat}(h:je p f l i (l.drop i))(hi:l.length≤i):ef p f l=l:=by
  grind[List.drop_eq_nil_of_le,je.done]
theorem YB{p:PId}{f:TUnit→TUnit}{l:List TUnit}{i:Nat}(h:je p f l i (l.drop i))(hi:i<l.length)(hw:cV p (gD l i)=false):je p f l (i+1) (l.drop (i+1)):=by
  grind[MU,je.skip]
theorem YC{p:PId}{f:TUnit→TUnit}{l:List TUnit}{i:Nat}(h:je p f l i (l.drop i))(hi:i<l.length)(hw:cV p (gD l i)=true):ef p f l=l.set i (dW p f (gD l i)):=by
  grind[MU,je.hit]
/-- The unit is another one without kids. -/
theorem ZJ(g:Nat)(bs:List AV)(p:PId)(u:TUnit)(hA:az [eU u,aU p,.func (.func g) [] bs]=0)(hA2:(AV.func (.func g) [] bs).top=0)(hp:(af u.act p.a&&(af u.item p.i&&af u.n p.n))=false)(h0:u.kids.length=0)(hl0:aF 0 (Int.ofNat u.kids.length)=false):kP 161 [eU u,aU p,.func (.func g) [] bs] (eU u):=by
  have hc:=Dn u.kids (by omega)
  let q:=[aZ 8 false 0 [ax [iV u.act,iV u.item,iV u.n,iV u.kind,aV u.label,aW (u.head.map aQ),aW (u.words.map aQ),aW (u.kids.map aY)]],aZ 3 false 0 [ax [iV p.a,iV p.i,iV p.n]],aZ 8 false 0 [ax [iV 0,iV 0,iV 0,iV 0,aV [],al,al,al]]];let q1:=[bx (bz g) [] bs,bj 0 0 0 0,bj 1 0 0 0,bj 2 0 0 0,aW (u.kids.map aY),aW (u.kids.map aY),nV u.kids.length,iV 0];exact bG (ht:=oA) Tryz.func161<|Kv 5 (lr ((Tryz.prog).underlying 34) u.act u.item u.n p.a p.i p.n<|ab q)<|Mh hp<|Kp 1 hc<|Kl 2 27 (ln aY u.kids)<|Mg 0<|MO0 [2,3,4,6,7,26,27,28] (q1,q) True 0 ti fun _ _=>Kh 0 hl0<|Kf 4<|bh<|ax [iV u.act,iV u.item,iV u.n,iV u.kind,aV u.label,aW<|u.head.map aQ,aW<|u.words.map aQ,aW<|u.kids.map aY]
/-- The unit is another: what is done below. -/
theorem ZW(g:Nat)(bs:List AV)(p:PId)(f:TUnit→TUnit)(u:TUnit)(hA:az [eU u,aU p,.func (.func g) [] bs]=0)(hA2:(AV.func (.func g) [] bs).top=0)(hp:(af u.act p.a&&(af u.item p.i&&af u.n p.n))=false)(hne:u.kids≠[])(hn:u.kids.length≤2^20)
    (hf:∀k,k∈u.kids→kP 62 [eU k,aU p] (.tuple [eU (ee p k),.bool (cV p k)]))
    (ih:∀k,k∈u.kids→kP 161 [eU k,aU p,.func (.func g) [] bs] (eU (dW p f k))):kP 161 [eU u,aU p,.func (.func g) [] bs] (eU (jH u (ef p f u.kids))):=by
  have rr0:∀b',(h:(List.map aY (jH u (ef p f u.kids)).kids)=b':=by first|rfl|(rw[YC hx0.2 (by(first|omega|(simp only[oN]at *;omega))) (by rw[←q0 (by(first|omega|(simp only[oN]at *;omega)))];assumption),q0 (by(first|omega|(simp only[oN]at *;omega)))];exact congrArg _ (uZ rfl (by(first|omega|(simp only[oN]at *;omega)))).symm)|(rw[YD hx0.2 (by(first|omega|(simp only[oN]at *;omega)))];exact congrArg _ (TJ rfl).symm))→(List.map aY (jH u (ef p f u.kids)).kids)=b':=(fun _ h=>h);exact bG (ht:=oA) Tryz.func161<|Kv 5 (lr ((Tryz.prog).underlying 34) u.act u.item u.n p.a p.i p.n<|ab [aZ 8 false 0 [ax [iV u.act,iV u.item,iV u.n,iV u.kind,aV u.label,aW<|u.head.map aQ,aW<|u.words.map aQ,aW<|u.kids.map aY]],aZ 3 false 0 [ax [iV p.a,iV p.i,iV p.n]],aZ 8 false 0 [ax [iV 0,iV 0,iV 0,iV 0,aV [],al,al,al]]])<|Mh hp<|Mg 1<|Mq (ES u.kids hne hn (aZ 8 false 0 [ax [iV u.act,iV u.item,iV u.n,iV u.kind,aV u.label,aW<|u.head.map aQ,aW<|u.words.map aQ,aW<|u.kids.map aY]]) (aZ 3 false 0 [ax [iV p.a,iV p.i,iV p.n]])<|aZ 8 false 0 [ax [iV 0,iV 0,iV 0,iV 0,aV [],al,al,al]]) fun a _=>Mg 3<|MO1 (0:Nat) [2,3,4,6,7,26,27,28] (fun b=>([bx (bz g) [] bs,bj 0 0 0 0,bj 1 0 0 0,bj 2 0 0 0,aM 3 0 0 u.kids.length<|some<|u.kids.length+a,aM 3 0 0 u.kids.length<|some<|u.kids.length+a,nV u.kids.length,nV b],[aZ 8 false 0 [ax [iV u.act,iV u.item,iV u.n,iV u.kind,aV u.label,aW<|u.head.map aQ,aW<|u.words.map aQ,aW<|u.kids.map aY]],aZ 3 false 0 [ax [iV p.a,iV p.i,iV p.n]],aZ 8 false 0 [ax [iV 0,iV 0,iV 0,iV 0,aV [],al,al,al]],aZ 8 false 0<|(u.kids++List.replicate a bf).map aY])) (fun a=>a≤u.kids.length∧je p f u.kids a (u.kids.drop a)) (fun a=>u.kids.length-a) (by simp_all[je.start]) fun b hx0 c=>have hx0:b≤u.kids.length∧je p f u.kids b (u.kids.drop b):=hx0;have q0:b<u.kids.length→gD (u.kids++List.replicate a bf) b=gD u.kids b:=fun h=>VZ h;Ka 0 (Int.ofNat b) (Int.ofNat u.kids.length) (fun _ _=>K1 0 .rix (et (aK 0) (sA:b<u.kids.length))<|Mr (et (aK 0)<|rB aY (g:=Go.Ev.eU) aT (gR:b<(u.kids++List.replicate a bf).length))<|Kp 4 (hf (gD (u.kids++List.replicate a bf) b)<|by grind[fR])<|Kb 6 (cV p<|gD (u.kids++List.replicate a bf) b) (fun _=>Kp 4 (ih (gD (u.kids++List.replicate a bf) b)<|by grind[fR])<|M1 .rix (et (aK 0) (sA:b<u.kids.length))<|M1 (.rst (ax [iV (gD (u.kids++List.replicate a bf) b).act,iV (gD (u.kids++List.replicate a bf) b).item,iV (gD (u.kids++List.replicate a bf) b).n,iV (gD (u.kids++List.replicate a bf) b).kind,aV (gD (u.kids++List.replicate a bf) b).label,aW<|List.map aQ (gD (u.kids++List.replicate a bf) b).head,aW<|List.map aQ (gD (u.kids++List.replicate a bf) b).words,aW<|List.map aY (gD (u.kids++List.replicate a bf) b).kids])<|((u.kids++List.replicate a bf).set b<|dW p f<|gD (u.kids++List.replicate a bf) b).map aY) (ca (aK 0) (rB aY (g:=Go.Ev.eU) aT (gR:b<(u.kids++List.replicate a bf).length))<|DT (f:=aY) (g:=Go.Ev.eU) aT (l:=u.kids++List.replicate a bf) (i:=b) (w:=dW p f<|gD (u.kids++List.replicate a bf) b))<|Mg 0<|M2 (.fsl 3 [3,6] 48<|(((u.kids++List.replicate a bf).set b<|dW p f<|gD (u.kids++List.replicate a bf) b).take u.kids.length).map aY) (jd rt rt rt ti) (ca (aK 0) (wT (f:=aY) (l:=(u.kids++List.replicate a bf).set b<|dW p f<|gD (u.kids++List.replicate a bf) b) (n:=u.kids.length))<|aX iw<|((u.kids++List.replicate a bf).set b<|dW p f<|gD (u.kids++List.replicate a bf) b).take u.kids.length)<|Ml 48 (fm ((((u.kids++List.replicate a bf).set b<|dW p f<|gD (u.kids++List.replicate a bf) b).take u.kids.length).map aY) (oY (some<|u.kids.length+a)<|some u.kids.length)<|aX iw<|((u.kids++List.replicate a bf).set b<|dW p f<|gD (u.kids++List.replicate a bf) b).take u.kids.length)<|Kf 3 (bQ (.cons (bh _)<|.cons (bh _)<|.cons (bh _)<|.cons (bh _)<|.cons (bh _)<|.cons (bh _)<|.cons (bh _)<|.cons (cQ<|rr0<|(((u.kids++List.replicate a bf).set b<|dW p f<|gD (u.kids++List.replicate a bf) b).take u.kids.length).map aY) .nil)<|by kernel_rfl:Le _ (AV.agg [iV u.act,iV u.item,iV u.n,iV u.kind,AV.str u.label,AV.ls (u.head.map aQ),AV.ls (u.words.map aQ),AV.ls ((((u.kids++List.replicate a bf).set b (dW p f (gD (u.kids++List.replicate a bf) b))).take u.kids.length).map aY)]))) fun _=>Kl 0 47 (jk b)<|Mg 0<|M2 (.frl 4 [3,4,6,7,26,27,28] [2]) (yQ (PE (sz:=8) (op:=false) (ep:=0) (n:=4)<|aX iw<|u.kids++List.replicate a bf) rt rt rt ti) (et (oA:(AV.func (Fn.func g) [] bs).top≤4) ti)<|Mf<|c (b+1) (by grind[YB]) gR) fun _ _=>Mg 0<|M2 (.fsl 3 [3,6] 48<|((u.kids++List.replicate a bf).take u.kids.length).map aY) (jd rt rt rt ti) (ca (aK 0) (wT (f:=aY) (l:=u.kids++List.replicate a bf) (n:=u.kids.length))<|aX iw<|(u.kids++List.replicate a bf).take u.kids.length)<|Ml 48 (fm (((u.kids++List.replicate a bf).take u.kids.length).map aY) (oY (some<|u.kids.length+a)<|some u.kids.length)<|aX iw<|(u.kids++List.replicate a bf).take u.kids.length)<|Kf 3 (bQ (.cons (bh _)<|.cons (bh _)<|.cons (bh _)<|.cons (bh _)<|.cons (bh _)<|.cons (bh _)<|.cons (bh _)<|.cons (cQ<|rr0<|((u.kids++List.replicate a bf).take u.kids.length).map aY) .nil)<|by kernel_rfl:Le _ (AV.agg [iV u.act,iV u.item,iV u.n,iV u.kind,AV.str u.label,AV.ls (u.head.map aQ),AV.ls (u.words.map aQ),AV.ls (((u.kids++List.replicate a bf).take u.kids.length).map aY)]))
theorem ia{g:Nat}{bs:List AV}{p:PId}(hb:az bs=0)(x:TUnit):az [eU x,aU p,.func (.func g) [] bs]=0:=by
  have h1:(eU x).top=0:=by rw[←aT];exact iw x
  have h2:(AV.func (.func g) [] bs).top=0:=by simp only[AV.top,az,hb];rfl
  exact kK.2 fun y hy=>by
    simp only[fQ,List.mem_nil_iff,or_false]at hy
    rcases hy with rfl|rfl|rfl
    · omega
    · exact J0 p
    omega
/-- with: the first unit of the number is changed, wherever it stands. -/
theorem oT(g:Nat)(bs:List AV)(p:PId)(f:TUnit→TUnit)(hb:az bs=0):∀(u:TUnit),nU u≤2^19→(∀x,x∈bu u→x.head.length<2^30∧x.words.length<2^30)→
    (∀v,v∈bu u→fO p v=true→kP 161 [eU v,aU p,.func (.func g) [] bs] (eU (f v)))→kP 161 [eU u,aU p,.func (.func g) [] bs] (eU (dW p f u)):=by
  refine TUnit.ind fun u ih hn ht hit=>?_
  have hA:=ia (g:=g) (bs:=bs) (p:=p) hb
  cases hi:fO p u with
  |true=>grind[re,dU]
  | false=>
    have hkl:=bg u
    rw[kR hi]
    by_cases h0:u.kids=[]
    · have e:jH u (ef p f u.kids)=u:=by rw[h0,sC];cases u;simp only[TUnit.kids]at h0;subst h0;rfl
      rw[e]
      exact ZJ g bs p u (hA u) (by simp only[AV.top,az,hb];rfl) hi (by simp_all) (by rw[h0];rfl)
    · exact ZW g bs p f u (hA u) (by simp only[AV.top,az,hb];rfl) hi h0 (by omega) (fun k hk=>RN p k (by have:=io hk;omega) fun x hx=>ht x (bC hk hx))
        fun k hk=>ih k hk (by have:=io hk;omega) (fun x hx=>ht x (bC hk hx)) fun v hv=>hit v (bC hk hv)
theorem Bn{bs:List AV}(rs:List Nat)(h0:fP rs 0=0)(hb:az bs=0):mQ (fP rs) (.ptr 0 0 0 0::bs)=.ptr 0 0 0 0::bs:=by
  grind[mQ,Ev.ren,eS]
theorem BQ{g:Nat}{bs:List AV}{u u2:TUnit}{n n2 c:Nat}{X X2:List AV}{A B:AObj}(hb:az bs=0)(hX:az X=0)(hX2:az X2=0)(h:kD g (.ptr 0 0 0 0::bs) (ab [dC u (.slice 1 0 0 n (some c)),dD X]) (.tuple []) (ab [dC u2 (.slice 1 0 0 n2 (some c)),dD X2])):
    kD g (.ptr 0 0 0 0::bs) (ab [dC u (.slice 3 0 0 n (some c)),A,B,dD X]) (.tuple []) (ab [dC u2 (.slice 3 0 0 n2 (some c)),A,B,dD X2]):=
  pA fz [0,3] h (Bn _ rfl hb) rfl rfl ⟨⟨rfl,vi (by kernel_rfl)⟩,⟨rfl,by show az X≤2;omega⟩,trivial⟩ ⟨⟨rfl,vi (by kernel_rfl)⟩,⟨rfl,by show az X2≤2;omega⟩,trivial⟩
    (by show Nat.mx _ (az bs)≤2;rw[hb];exact vi (by kernel_rfl)) (bL _) ⟨by kernel_rfl,by rw[vL hX];kernel_rfl,trivial⟩ ⟨by kernel_rfl,by kernel_rfl,trivial⟩
    (by show _=AHeap.put (AHeap.put _ _ _) _ (kq _ (.row 8 false 0 X2));rw[vL hX2];kernel_rfl)
theorem Df{g:Nat}{bs:List AV}{u u2:TUnit}{n c:Nat}{X Y:List AV}{A B:AObj}(hb:az bs=0)(hX:az X=0)(h:kD g (.ptr 0 0 0 0::bs) (ab [dC u (.slice 1 0 0 n (some c)),dD X]) (.tuple []) (ab [dC u2 (.ls Y),dD X])):
    kD g (.ptr 0 0 0 0::bs) (ab [dC u (.slice 3 0 0 n (some c)),A,B,dD X]) (.tuple []) (ab [dC u2 (.ls Y),A,B,dD X]):=
  pA fz [0,3] h (Bn _ rfl hb) rfl rfl ⟨⟨rfl,vi (by kernel_rfl)⟩,⟨rfl,by show az X≤2;omega⟩,trivial⟩ ⟨⟨rfl,vi (by kernel_rfl)⟩,⟨rfl,by show az X≤2;omega⟩,trivial⟩
    (by show Nat.mx _ (az bs)≤2;rw[hb];exact vi (by kernel_rfl)) (bL _) ⟨by kernel_rfl,by rw[vL hX];kernel_rfl,trivial⟩ ⟨by kernel_rfl,by kernel_rfl,trivial⟩
    (by show _=AHeap.put (AHeap.put _ _ _) _ (kq _ (.row 8 false 0 X));rw[vL hX];kernel_rfl)
theorem kQ{g:Nat}{bs:List AV}{u u2:TUnit}{A B:AObj}{K K2:AV}(hb:az bs=0)(h1:az [.agg [iV u.act,iV u.item,iV u.n,iV u.kind,.str u.label,.ls (u.head.map aQ),.ls (u.words.map aQ),K]]=0)(h2:az [.agg [iV u2.act,iV u2.item,iV u2.n,iV u2.kind,.str u2.label,.ls (u2.head.map aQ),.ls (u2.words.map aQ),K2]]=0)(h:kD g (.ptr 0 0 0 0::bs) (ab [dC u K]) (.tuple []) (ab [dC u2 K2])):
    kD g (.ptr 0 0 0 0::bs) (ab [dC u K,A,B]) (.tuple []) (ab [dC u2 K2,A,B]):=
  fc fz 0 h1 h2 h (Bn _ rfl hb) rfl rfl (by simp only[az,AV.top,hb];rfl) rfl (by kernel_rfl) (by kernel_rfl)
/-- The unit is found; it has kids; a kid more is laid into its row, or into a new one. -/
theorem L1(g:Nat)(bs:List AV)(p:PId)(u u2:TUnit)(n2:Nat)(Z:Nat→List AV)(hA:az [eU u,aU p,.func (.func g) [] bs]=0)(hp:(af u.act p.a&&(af u.item p.i&&af u.n p.n))=true)(hl:u.kids.length≤2^20)(hne:u.kids≠[])(hn2:u2.kids.length=n2)
    (hdA:∀k,By (Nat.beq k 0) true→kD g (.ptr 0 0 0 0::bs) (ab [dC u (.slice 3 0 0 u.kids.length (some (u.kids.length+k))),vP p,zO,dD ((u.kids++List.replicate k bf).map aY)]) (.tuple []) (ab [dC u2 (.ls (u2.kids.map aY)),vP p,zO,dD ((u.kids++List.replicate k bf).map aY)]))
    (hdB:∀k,By (Nat.beq k 0) false→kD g (.ptr 0 0 0 0::bs) (ab [dC u (.slice 3 0 0 u.kids.length (some (u.kids.length+k))),vP p,zO,dD ((u.kids++List.replicate k bf).map aY)]) (.tuple []) (ab [dC u2 (.slice 3 0 0 n2 (some (u.kids.length+k))),vP p,zO,dD (u2.kids.map aY++Z k)])):kP 161 [eU u,aU p,.func (.func g) [] bs] (eU u2):=by
  let q:=ax [iV u2.act,iV u2.item,iV u2.n,iV u2.kind,aV u2.label,aW (u2.head.map aQ),aW (u2.words.map aQ),aW (u2.kids.map aY)];let q1:=[ax [iV u.act,iV u.item,iV u.n,iV u.kind,aV u.label,aW (u.head.map aQ),aW (u.words.map aQ),aW (u.kids.map aY)]];let q2:=[iV p.a,iV p.i,iV p.n];let q3:=[ax [iV 0,iV 0,iV 0,iV 0,aV [],al,al,al]];exact bG (ht:=oA) Tryz.func161<|Kv 5 (lr ((Tryz.prog).underlying 34) u.act u.item u.n p.a p.i p.n<|ab [aZ 8 false 0 q1,aZ 3 false 0 [ax q2],aZ 8 false 0 q3])<|Mt hp<|Mg 1<|Mq (ES u.kids hne hl (aZ 8 false 0 q1) (aZ 3 false 0 [ax q2])<|aZ 8 false 0 q3) fun a _=>Ks 2 (a.beq 0) (fun b=>Me (hdA a b)<|Kf 1<|bh q) fun b=>Me (hdB a b)<|M2 (.fza 0 7 3 [3,6]<|u2.kids.map aY) (jd rt rt rt ti) (ca (aK 0) (WY (xs:=List.map aY u2.kids) (ys:=Z a) (n:=n2) sA)<|aX iw u2.kids)<|Kf 1<|bh q
/-- The unit is found; it has no kids; it gets one. -/
theorem L2(g:Nat)(bs:List AV)(p:PId)(u u2:TUnit)(hA:az [eU u,aU p,.func (.func g) [] bs]=0)(hp:(af u.act p.a&&(af u.item p.i&&af u.n p.n))=true)(h0:u.kids=[])
    (hdN:kD g (.ptr 0 0 0 0::bs) (ab [dC u .nils,vP p,zO]) (.tuple []) (ab [dC u2 (.ls (u2.kids.map aY)),vP p,zO]))
    (hdP:kD g (.ptr 0 0 0 0::bs) (ab [dC u (.ps [] true),vP p,zO]) (.tuple []) (ab [dC u2 (.ls (u2.kids.map aY)),vP p,zO])):kP 161 [eU u,aU p,.func (.func g) [] bs] (eU u2):=by
  obtain⟨a,i,n,k,l,h,w,ks⟩:=u
  simp only[TUnit.kids]at h0
  subst h0
  let q:=ax [iV u2.act,iV u2.item,iV u2.n,iV u2.kind,aV u2.label,aW (u2.head.map aQ),aW (u2.words.map aQ),aW (u2.kids.map aY)];let q1:=[iV p.a,iV p.i,iV p.n];exact bG (ht:=oA) Tryz.func161<|Kv 5 (lr ((Tryz.prog).underlying 34) (TUnit.mk a i n k l h w []).act (TUnit.mk a i n k l h w []).item (TUnit.mk a i n k l h w []).n p.a p.i p.n<|ab [aZ 8 false 0 [ax [iV (TUnit.mk a i n k l h w []).act,iV (TUnit.mk a i n k l h w []).item,iV (TUnit.mk a i n k l h w []).n,iV (TUnit.mk a i n k l h w []).kind,aV l,aW<|List.map aQ (TUnit.mk a i n k l h w []).head,aW<|List.map aQ (TUnit.mk a i n k l h w []).words,aW []]],aZ 3 false 0 [ax q1],aZ 8 false 0 [ax [iV 0,iV 0,iV 0,iV 0,aV [],al,al,al]]])<|Mt hp<|Mg 1<|Mz 17 (fun(_:([]:List AV)=[])=>Mp H7<|Ke 2 hdN<|Kf 1<|bh q)<|Mp H6<|Ke 2 hdP<|Kf 1<|bh q
end Go.Proofs.YtaepacpodblomaaGreatDoor
