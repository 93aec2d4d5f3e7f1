/- Functions walked: what each of them answers, for A day is among the changed days of a gazette exactly if the book differs before and after it, and revisions and retroactive days are consistent: part 2. Conditions: those that each theorem names. -/
import Derived.Test.YtaepacpodblomaaGreatDoorH1
namespace Go.Proofs.YtaepacpodblomaaGreatDoor
open Go Go.Ev
noncomputable def Be(most n:Int)(a:PAct):Bool:=au most (n+Int.ofNat a.items.length)||(au 100 (Int.ofNat a.title.length)||(au 60 (Int.ofNat a.start.event.length)||aw (a.items.all mL)))
noncomputable def lP(most:Int):List PAct→Int→Option Int
  |[],n=>some n
  |a::r,n=>match Be most n a with|true=>none|false=>lP most r (n+Int.ofNat a.items.length)
noncomputable def vT(g:PGaz):Bool:=au 8 (Int.ofNat g.acts.length)||au 60 (Int.ofNat g.prior.length)
noncomputable def uf(most:Int):List PGaz→Int→Bool
  |[],_=>true
  |g::r,n=>match vT g with|true=>false|false=>match lP most g.acts n with|none=>false|some m=>uf most r m
noncomputable def N0(gs:List PGaz)(most:Int):Bool:=match au 8 (Int.ofNat gs.length)with|true=>false|false=>uf most gs 0
theorem UA(gs:List PGaz)(most:Int)(hf:pm gs)(m1:0≤most)(m2:most≤2^20):kP 39 [.ls (gs.map ay),iV most] (.bool (N0 gs most)):=by
  obtain⟨f0,f1⟩:=hf
  have fa:∀g,g∈gs→∀a,a∈g.acts→a.items.length<2^60:=fun g hg a ha=>((f1 g hg).2 a ha).1
  have fb:∀g,g∈gs→g.acts.length<2^60:=fun g hg=>(f1 g hg).1
  have rr0 b' (h:(N0 gs most)=b':=by simp only[N0,uf,vT,lP,Be,aS,aw,bS, *]):=h;exact bC Tryz.func39<|Kl 2 11 (ln ay gs)<|Ka 0 8 (Int.ofNat gs.length) (fun _ _=>Ky 0<|rr0 false) fun _ _=>Mg 1<|JI ay gs (0:Int) [0,1,5,6] (fun b _ c=>([aW<|gs.map ay,iV most,iV c,nV b],[])) (fun b c=>(0:Int)≤c∧c≤most∧uf most gs (0:Int)=uf most b c) (by(refine⟨by omega,by omega,?_⟩;first|rfl|(simp only[uf,vT,lP,aS,aw,bS, *]))) (fun _ _ _ _ _ _ b _=>Kl 2 15 (ln ay gs)<|Kh 0 b<|Ky 0<|rr0 true) fun b _ c d _ e f i j k _ l m=>Kl 2 15 (ln ay gs)<|Kt 0 k<|Kx 1 l<|Kl 2 24 (ln aa e.acts)<|Ka 1 8 (Int.ofNat e.acts.length) (fun b _=>Mt b<|Mt b<|Mt b<|Mt b<|Mt b<|Mt b<|MV b<|Ky 1<|rr0 false) fun k _=>Kh 0 k<|Kh 0 k<|Mx l<|Mh k<|Kh 0 k<|Kh 0 k<|Kh 0 k<|Kw 0 k<|Mb (au 60<|Int.ofNat<|List.length e.prior) (fun b=>have:=an b;Ky 0<|rr0 false) fun k=>have:=aF k;Mg 0<|JI aa e.acts c [0,1,5,6,7] (fun c _ d=>([aW<|gs.map ay,iV most,iV d,nV b,nV c],[])) (fun b d=>(0:Int)≤d∧d≤most∧lP most e.acts c=lP most b d) (by(exact⟨m.1,m.2.1,rfl⟩)) (fun _ _ c _ _ _ d _=>Kx 2 l<|Kl 2 41 (ln aa e.acts)<|Kh 0 d<|Kl 1 18 (dW b)<|Kf 0<|i c<|by(refine⟨by omega,by omega,?_⟩;first|rfl|(simp only[uf,vT,lP,aS,aw,bS, *]))) fun f _ i k _ m n o p q _ r _=>have:=fa e (bQ d j) m<|bQ k p;have:=fb e<|bQ d j;Kx 2 l<|Kl 2 41 (ln aa e.acts)<|Kt 0 q<|Kx 1 l<|Kx 2 r<|Kl 6 56 (ln N7 m.items)<|Kl 0 57 (Le.wr (x:=i+Int.ofNat m.items.length) eP)<|Ka 4 most (i+Int.ofNat m.items.length) (fun b _=>Mt b<|Mt b<|Mt b<|MV b<|Ky 3<|rr0 false) fun l _=>Kh 0 l<|Kh 0 l<|Kh 0 l<|Kw 0 l<|Ka 0 100 (Int.ofNat<|List.length m.title) (fun b _=>Mt b<|Mt b<|Mt b<|Mt b<|MV b<|Ky 1<|rr0 false) fun l _=>Kh 0 l<|Kh 0 l<|Kh 0 l<|Kh 0 l<|Kw 0 l<|Mb (au 60<|Int.ofNat<|List.length m.start.event) (fun b=>have:=an b;Ky 0<|rr0 false) fun l=>have:=aF l;K1 0 (.frz 0 [0,1,5,6,7,8,9]) ti<|tK N7 m.items [0,1,5,6,7,8,9] (fun c _=>([aW<|gs.map ay,iV most,iV<|i+Int.ofNat m.items.length,nV b,nV f,AV.pptr [az [iV m.number,aK m.title,iV m.day,iV m.start.kind,iV m.start.day,aK m.start.event,aW<|m.items.map N7]] 0 0,nV c],[])) (fun b=>m.items.all mL=b.all mL) (by rfl) (fun _ _ _ _ _ b _=>Kl 3 77 (ln N7 m.items)<|Kh 0 b<|Kl 1 44 (dW f)<|Kf 0<|o (i+Int.ofNat m.items.length)<|by(refine⟨by(simp only[oN]at *;omega),by assumption,?_⟩;simp only[lP,Be,aS,aw,bS, *])) fun b _ c _ e f i l n _ o _=>have o:=o.trans<|congrArg some<|eJ e;Kl 3 77 (ln N7 m.items)<|Kt 0 n<|Kx 2 o<|Kp 0 (Uu e<|by first|exact((f1 _ (bQ d j)).2 _ (bQ k p)).2 _ (bQ c l))<|Kn 0 (mL e) (fun _=>Kf 0<|ch<|rr0 false) fun _=>Kl 1 80 (dW b)<|Kf 0<|i<|by simp only[aS,aw,bS, *]at *
noncomputable def NT(gs:List PGaz)(p:aO):Bool:=N0 gs 24&&aw (au 60 (Int.ofNat p.length))
theorem ifW(l:List PWord)(g:Nat)(q:PWord→Bool)(hp:∀k,k∈l→kP g [aQ k] (.bool (q k)))(hl:l.length<2^40):kP 291 [.ls (l.map aQ),.func (.func g) [] []] (iV (dt q l 0)):=by
  have rr0 b' (h:(dt q l 0)=b':=by first|exact mV zd0 hr0 hj0 ‹_› |exact hj0):=h;exact bC Tryz.func291<|Kl 2 7 (ln aQ l)<|Mg 0<|tK aQ l [0,1,7,8] (fun a _=>([aW<|l.map aQ,bq (bU g) [] [],nV l.length,nV a],[])) (fun a=>dt q l (0:Nat)=dt q a (l.length-a.length)) sA (fun _ _ zd0 _ hr0 a hj0=>Kh 0 a<|Kf 0<|li<|rr0 (-1)) fun a _ zd0 _ b c d hr0 e _ f hj0=>Kt 0 e<|Kx 4 f<|Kp 0 (hp b<|by exact bQ zd0 hr0)<|Mb (q b) (fun _=>Kf 1<|li<|rr0<|Int.ofNat a) fun _=>Kl 0 18 (dW a)<|Kf 0<|d<|by exact kW zd0 hr0 hj0 (by omega)
theorem cfW(l:List PWord)(g:Nat)(q:PWord→Bool)(hp:∀k,k∈l→kP g [aQ k] (.bool (q k)))(hl:l.length<2^40):kP 263 [.ls (l.map aQ),.func (.func g) [] []] (.bool (l.any q)):=by
  have h:=ifW l g q hp hl
  have rr0 b' (h:(l.any q)=b':=by(rw[lV];simp only[aS,aw,bS,rO])):=h;exact bC Tryz.func263<|Kp 2 h<|Kf 1<|ch<|rr0<|aw<|au (dt q l 0) 0
theorem CO(w:PWord):kP 262 [aQ w] (.bool (o3 w)):=by
  exact bC Tryz.func262<|Kv 4 (EQ ((Tryz.prog).underlying 100) w.act w.item w.at_ 0 0 0<|ab [aZ 4 false 0 [az [aK w.text,iV w.act,iV w.item,iV w.at_]]])<|Kf 0<|bd<|dF<|aw<|al w.act 0&&(al w.item 0&&al w.at_ 0)
theorem Sq(u:TUnit)(h1:u.head.length<2^40)(h2:u.words.length<2^40):kP 261 [eU u] (.bool (Dg u)):=by
  have c1:=cfW u.head 262 o3 (fun k _=>CO k) h1
  have c2:=cfW u.words 262 o3 (fun k _=>CO k) h2
  have rr0 b' (h:(Dg u)=b':=by(simp only[Dg,fG,bg,bz,bT,aS,aw,bS, *];first|done|rfl)):=h;exact bC Tryz.func261<|Kv 5 (lq ((Tryz.prog).underlying 34) u.act u.item u.n 0 0 0<|ab [aZ 8 false 0 [az [iV u.act,iV u.item,iV u.n,iV u.kind,aK u.label,aW<|u.head.map aQ,aW<|u.words.map aQ,aW<|u.kids.map aV]]])<|Kb 0 (al u.act 0&&(al u.item 0&&al u.n 0)) (fun a=>Kt 0 a<|Kt 0 a<|Kt 0 a<|Mp c1<|Mt a<|Ku 0 a<|Kn 0 (u.head.any o3) (fun a=>Kt 0 (bO a)<|Kt 0 (bO a)<|Kt 0 (bO a)<|Mp c2<|Mt (bO a)<|Ku 0 (bO a)<|Kf 0<|ch<|rr0<|aw<|u.words.any o3) fun a=>Mh (bN a)<|Mh (bN a)<|Mh (bN a)<|Mh (bN a)<|My (bN a)<|Ky 0<|rr0 false) fun a=>Mh a<|Mh a<|Mh a<|Mh a<|My a<|Ky 2<|rr0 false
theorem XI(u:TUnit)(h:mf u):kP 235 [eU u] (.bool (HP u)):=by
  have e1:=xR u h
  have e2:=LC 261 Dg u (fun x hx=>by
      obtain⟨a,b,_⟩:=h.2 x hx
      grind[Sq]) (by have h1:=bf u;have h3:=h.1;omega) (fun x hx=>by
      have h1:=bf x
      have h2:=dL hx
      have h3:=h.1
      omega)
  have rr0 b' (h:(HP u)=b':=by(simp only[HP,aS,aw,bS, *];first|done|rfl)):=h;exact bC Tryz.func235<|Kp 2 e1<|Kb 0 (kr u) (fun c=>Kt 0 c<|Mp e2<|MV c<|Kf 0<|ch<|rr0<|wY Dg u) fun c=>Mh c<|My c<|Ky 0<|rr0 false
theorem Nk(p:PId)(u:TUnit)(hh:cV p u=false)(hn:nU u≤2^20):kP 171 [eU u,aY p] (.tuple [aY bT,iV (-1),.bool false]):=by
  have hw:=J4 p u hh hn
  exact bC Tryz.func171<|Kp 6 hw<|Kf 8<|bd<|eV [az [iV 0,iV 0,iV 0],iV (-1),dF false]
theorem Nj(p:PId)(u:TUnit)(hh:cV p u=true)(hl:au (Int.ofNat (aH p u).length) 2=true)(hn:nU u≤2^20):kP 171 [eU u,aY p] (.tuple [aY bT,iV (-1),.bool false]):=by
  have hw:=Fj p u hh hn
  exact bC Tryz.func171<|Kp 6 hw<|Kl 2 14 (ln aV<|aH p u)<|Kt 0 hl<|Kf 3<|bd<|eV [az [iV 0,iV 0,iV 0],iV (-1),dF false]
theorem PN(p:PId)(u:TUnit)(h:iQ p u=false)(hn:nU u≤2^20):kP 171 [eU u,aY p] (.tuple [aY bT,iV (-1),.bool false]):=by
  grind[Nk,Nj,iQ]
theorem PL(p:PId)(u:TUnit)(h:iQ p u=true)(hn:nU u≤2^20):kP 171 [eU u,aY p] (.tuple [aY (su p u),iV (qa p u),.bool true]):=by
  have hl:au (Int.ofNat (aH p u).length) 2=false:=by grind[iQ]
  have hl2:2≤(aH p u).length:=by have:=aF hl;grind
  have hh:cV p u=true:=by
    cases e:cV p u with
    |true=>rfl
    |false=>grind[Q0]
  have hw:=Fj p u hh hn
  have hlen:=l9 (p:=p) u
  have hm:Ik p u∈bp u:=J5 u _ (fI (by omega))
  have hkn:∀k,k∈(Ik p u).kids→nU k≤2^20:=fun k hk=>bR (dL (iL hm (Ld hk))) hn
  have hkl:(Ik p u).kids.length<2^40:=by have:=bf (Ik p u);have:=dL hm;omega
  have hi:=aag (Ik p u).kids 233 p (cV p) (fun k hk=>by
    grind[cV,Nw,Nv]) hkl
  rw[IH h,II h]
  generalize hG:Ik p u=y at *
  have hG2:gD (aH p u) ((aH p u).length -2)=y:=hG
  have rr0 b' (h:((bz y).a)=b':=by(rw[hG2];rfl)):=h;have rr1 b' (h:((bz y).i)=b':=by(rw[hG2];rfl)):=h;have rr2 b' (h:((bz y).n)=b':=by(rw[hG2];rfl)):=h;exact bC Tryz.func171<|Kp 6 hw<|Kl 2 14 (ln aV<|aH p u)<|Kh 0 hl<|Kl 2 19 (ln aV<|aH p u)<|Kl 0 20 (b0 (x:=Int.ofNat (aH p u).length -(2:Int)) (n:=(aH p u).length -2) eP)<|Mx ((bZ aV (oA:(aH p u).length -2<(aH p u).length)).trans<|congrArg some<|aR _)<|Mg 5<|M0 (.ren [2,3,0,1] [] [4,8,24,25])<|M1 (.frz 2 [4,8,24,25]) (cj rt rt ti)<|Mp (aA.onArgs (.cons (b6 (by(rw[hG2];done):(y.kids.map aV)=(List.map aV (gD (aH p u) ((aH p u).length -2)).kids)))<|lc .nil) hi:kP 232 [aW (List.map aV (gD (aH p u) ((aH p u).length -2)).kids),bq (bU 233) [] [AV.pptr [az [iV p.a,iV p.i,iV p.n]] 0 0]] _)<|Kf 6 (eD<|.cons (aT (.cons (li<|rr0 (gD (aH p u)<|(aH p u).length -2).act)<|.cons (li<|rr1 (gD (aH p u)<|(aH p u).length -2).item)<|.cons (li<|rr2 (gD (aH p u)<|(aH p u).length -2).n) .nil)<|by kernel_rfl)<|lc<|lc .nil:Le _ (eV [az [iV (gD (aH p u) ((aH p u).length -2)).act,iV (gD (aH p u) ((aH p u).length -2)).item,iV (gD (aH p u) ((aH p u).length -2)).n],iV (dt (cV p) y.kids 0),dF true]))
theorem PM(p:PId)(u:TUnit)(hn:nU u≤2^20):kP 171 [eU u,aY p] (.tuple [aY (su p u),iV (qa p u),.bool (iQ p u)]):=by
  grind[iQ,PL,Wy,PP,PN]
theorem Zd(p:PId)(u:TUnit)(h:cV p u=false)(hn:nU u≤2^20):kP 217 [eU u,aY p] (.ls ((pF p u).map aY)):=by
  have hw:=J4 p u h hn
  have e:pF p u=[]:=by unfold pF;rw[Ay h];rfl
  rw[e]
  let q:=[aZ 8 false 0 [az [iV u.act,iV u.item,iV u.n,iV u.kind,aK u.label,aW (u.head.map aQ),aW (u.words.map aQ),aW (u.kids.map aV)]],aZ 3 false 0 [az [iV p.a,iV p.i,iV p.n]]];let q1:=[af,af,iV (IntKind.i64.wrap (0-2))];exact bC Tryz.func217<|Kp 5 hw<|Mg 4<|Zm [5,6,7] (q1,q) True 0 ti fun _ _=>Kf 4 bI
theorem Zc(p:PId)(u:TUnit)(h:cV p u=true)(hn:nU u≤2^20):kP 217 [eU u,aY p] (.ls ((pF p u).map aY)):=by
  have hw:=Fj p u h hn
  have hlen:=l9 (p:=p) u
  have hpos:0<(aH p u).length:=pT.2 (kS h)
  have hac:=Di p u
  have rr0 b' (h:((pF p u).map aY)=b':=by first|rfl|(rw[Se hx0 ‹_›];rfl)|(rw[Sf hx0.2.1 oA ‹_›])):=h;exact bC Tryz.func217<|Kp 5 hw<|Kl 0 6 (eS ((aH p u).map aV) false<|aX iZ<|aH p u)<|Kl 1 12 (ln aV<|aH p u)<|Kl 0 13 (Le.wr (x:=Int.ofNat (aH p u).length -2) eP)<|K1 0 (.frz 0 [5,6,7]) ti<|Su Int Nat Nat (List PId) (Int.ofNat (aH p u).length -2) [5,6,7] (fun a=>([af,aW<|(aH p u).map aV,iV a],[])) (fun a b c d=>([aI 0 b 0 c none,aW<|(aH p u).map aV,iV a],[aZ 3 true b<|d.map aY])) (fun a=>a=Int.ofNat (aH p u).length -(2:Int)) (fun a _ b c=>b=c.length∧c=ow p u (a+(1:Int)).toNat∧((-1):Int)≤a∧a+(2:Int)≤↑(aH p u).length∧c.length≤(aH p u).length) (fun a=>(a+1).toNat) (fun a _ _ _=>(a+1).toNat) (by rfl) (fun a hx0 _ b=>have hx0:=hx0;Kd 1 a 0 (fun _ _=>Kl 2 20 (Bh (x:=a) oA)<|Mx ((bZ aV (gR:a.toNat<(aH p u).length)).trans<|congrArg some<|aR _)<|Kl 6 17 (Le.wr (x:=a-1) eP)<|Kf 0<|b (a-1) 0 1 [PId.mk (gD (aH p u) a.toNat).act (gD (aH p u) a.toNat).item (gD (aH p u) a.toNat).n] (by exact⟨rfl,Ob hx0 (by omega),by omega,by grind,by grind⟩) oA) fun _ _=>Kf 1 (Le.lsn<|rr0 []:Le _ (af))) fun a b c d hx0 _ e=>have hx0:=hx0;Kd 1 a 0 (fun _ _=>Kl 2 20 (Bh (x:=a) oA)<|Mx ((bZ aV (oA:a.toNat<(aH p u).length)).trans<|congrArg some<|aR _)<|K1 2 .app (cj (aq b) (sA:c=(d.map aY).length) (by(refine aN (m:=2^21) ?_ ?_ ?_<;>omega):small (c+1) 24=true))<|M1 (.obj 0<|aZ 3 true (b+1)<|(d++[PId.mk (gD (aH p u) a.toNat).act (gD (aH p u) a.toNat).item (gD (aH p u) a.toNat).n]).map aY) (congrArg (aZ 3 true<|b+1)<|cM (f:=aY) (l:=d) (ws:=[PId.mk (gD (aH p u) a.toNat).act (gD (aH p u) a.toNat).item (gD (aH p u) a.toNat).n]))<|Kl 2 17 (Le.wr (x:=a-1) eP)<|Kf 0<|e (a-1) (b+1) (c+1) (d++[PId.mk (gD (aH p u) a.toNat).act (gD (aH p u) a.toNat).item (gD (aH p u) a.toNat).n]) (by exact⟨by simp_all,H3 hx0.2.1 hx0.2.2.2.1 (by omega),by omega,by omega,by(have z:=H3 hx0.2.1 hx0.2.2.2.1 (by omega);grind)⟩) oA) fun _ _=>Mg 1<|M2 (.fsl 0 [] 4<|d.map aY) ti (cj (aq b) (tA aY d c (oA:(d).length=c))<|aX Ji d)<|Ml 4 (eS (d.map aY) false<|aX Ji d)<|Mf<|b6<|rr0<|d.map aY
theorem H2(p:PId)(u:TUnit)(hn:nU u≤2^20):kP 217 [eU u,aY p] (.ls ((pF p u).map aY)):=by
  grind[Zc,Zd]
theorem kI(u:TUnit)(s:PStep):kP 249 [eU u,aj s] (.bool (bD s u)):=by
  have rr0 b' (h:(bD s u)=b':=by(simp only[bD,bw,aS,aw,bS, *];first|done|rfl)):=h;exact bC Tryz.func249<|Kb 8 (al u.kind s.kind) (fun a=>Kt 0 a<|Kt 0 a<|Kt 0 a<|Kt 0 a<|Ku 0 a<|Kf 0<|ch<|rr0<|dS u.label s.label) fun a=>Mh a<|Mh a<|Mh a<|Mh a<|My a<|Ky 0<|rr0 false
noncomputable abbrev jd(p:List PStep):AObj:=.row 1 false 0 [.ls (p.map aj)]
noncomputable abbrev EH(ep n:Nat):AObj:=.row 1 false 0 [.slice 2 ep 0 n none]
noncomputable abbrev BD(ep:Nat)(l:List TUnit):AObj:=.row 8 true ep (l.map aV)
noncomputable abbrev Nl:AObj:=.row 1 false 0 [.nils]
theorem C6(s:PStep)(rs:List PStep)(u:TUnit)(h:By (bD s u) false):kD 248 [eU u,.ptr 0 0 0 0,.ptr 1 0 0 0] (ab [jd (s::rs),Nl]) (.tuple []) (ab [jd (s::rs),Nl]):=by
  have h':bD s u=false:=h
  exact eM Tryz.func248 fun a=>Kp 4 (kI u s)<|Mh h'<|M1 (.frz 2 []) (cj rt rt ti)<|Mf a
theorem Jj(s:PStep)(rs:List PStep)(u:TUnit)(h:By (bD s u) true):kD 248 [eU u,.ptr 0 0 0 0,.ptr 1 0 0 0] (ab [jd (s::rs),Nl]) (.tuple []) (ab [jd (s::rs),EH 0 1,BD 0 [u]]):=by
  have h':bD s u=true:=h
  exact O3 Tryz.func248<|Kp 4 (kI u s)<|Mt h'<|Mg 7<|M0 (.ren [0,1,3,2] [] [])<|M1 (.frz 3 []) (jQ rt rt rt ti)<|Mf<|et (aq<|eV []) (by(simp only[BD,eh,yo,aR];rfl):(ab [AObj.row 1 false 0 [AV.ls ((s::rs).map aj)],AObj.row 1 false 0 [AV.slice 2 0 0 1 none],AObj.row 8 true 0 [AV.agg [iV u.act,iV u.item,iV u.n,iV u.kind,AV.str u.label,AV.ls (u.head.map aQ),AV.ls (u.words.map aQ),AV.ls (u.kids.map aV)]]])=(ab [jd (s::rs),EH 0 1,BD 0 [u]]))
theorem NL(s:PStep)(rs:List PStep)(u:TUnit)(ep n:Nat)(l:List TUnit)(h:By (bD s u) false):kD 248 [eU u,.ptr 0 0 0 0,.ptr 1 0 0 0] (ab [jd (s::rs),EH ep n,BD ep l]) (.tuple []) (ab [jd (s::rs),EH ep n,BD ep l]):=by
  have h':bD s u=false:=h
  exact eM Tryz.func248 fun a=>Kp 4 (kI u s)<|Mh h'<|M1 (.frz 3 []) (jQ (tR 8 true ep 3<|aX iZ l) rt rt ti)<|Mf a
theorem NM(s:PStep)(rs:List PStep)(u:TUnit)(ep n:Nat)(l:List TUnit)(h:By (bD s u) true)(hn:n=l.length)(hl:l.length<2^30):kD 248 [eU u,.ptr 0 0 0 0,.ptr 1 0 0 0] (ab [jd (s::rs),EH ep n,BD ep l]) (.tuple []) (ab [jd (s::rs),EH (ep+1) (n+1),BD (ep+1) (l++[u])]):=by
  have h':bD s u=true:=h
  let q:=[iV 0,iV 0,iV 0,iV 0,aK [],af,af,af];let q1:=List.map aV l++[az q];exact eM Tryz.func248 fun a=>Kp 4 (kI u s)<|Mt h'<|Mg 3<|Mw (.apx q1<|.rix<|.rst (az q) ((l++[u]).map aV)<|.go 0<|.frz 3 [] .fin)<|Xj rt (gT (tR 8 true ep 4<|aX iZ l) rt) (et (km _ _:([az q]:List AV)≠[]) rt) (et (cj (aq ep) (sA:n=(l.map aV).length) (by(refine aN (m:=2^31) ?_ ?_ ?_<;>(try simp only[lC,lN])<;>omega):small (n+([AV.agg [iV 0,iV 0,iV 0,iV 0,AV.str [],AV.nils,AV.nils,AV.nils]]).length) 120=true))<|aq q1) (et (aq<|ep+1) (oA:n<n+1)) rt (gT (tR 8 true (ep+1) 4 (by exact V9 _ rfl:ax q1=0)) rt) (cj (aq<|ep+1) (QW (f:=aV) (l:=l) (z:=az q) (oA:n=(l).length))<|Ph (f:=aV) (g:=Go.Ev.eU) aR (l:=l) (z:=az q) (w:=u) (oA:n=(l).length)) (jQ (tR 8 true (ep+1) 3<|aX iZ<|l++[u]) rt rt ti) a
theorem Hd(s:PStep)(rs:List PStep):∀(u:TUnit),∀(ep n:Nat)(l:List TUnit),n=l.length→l.length+nU u<2^30→kC 247 [eU u,.func (.func 248) [] [.ptr 0 0 0 0,.ptr 1 0 0 0]] (ab [jd (s::rs),EH ep n,BD ep l])
    (fun v h=>∃y:Nat×Nat×List TUnit,(y.2.1=y.2.2.length∧y.2.2=l++lZ s u)∧v=.tuple []∧h=ab [jd (s::rs),EH y.1 y.2.1,BD y.1 y.2.2]):=by
  refine TUnit.ind fun u ih ep n l hn hl=>?_
  have hq:=i7 u
  have hkl:=bf u
  have hp:=zd s u
  rcases Bool.eq_false_or_eq_true (bD s u)with hc|hc
  · rw[hc]at hp
    exact qJ Tryz.func247 fun a=>K1 2 (.frz 3 [1,2,6,7]) (jQ (tR 8 true ep 3<|aX iZ l) rt rt ti)<|Me (NM s rs u ep n l hc hn oA)<|Kl 2 11 (ln aV u.kids)<|Mg 0<|Vd aV u.kids (ep+1) (n+1) (l++[u]) [1,10,11,12] (fun a _ b c d=>([bq (bU 248) [] [bY 0 0 0 0,bY 1 0 0 0],aW<|u.kids.map aV,nV u.kids.length,nV a],[aZ 1 false 0 [aW<|(s::rs).map aj],aZ 1 false 0 [aI 2 b 0 c none],aZ 8 true b<|d.map aV])) (fun a _ b c=>b=c.length∧c++dV s a=l++[u]++dV s u.kids∧c.length+eQ a<2^30) gR (fun _ _ b c d _ _ _ e _=>Kh 0 e<|Mf<|a (b,c,d)<|by grind[mC]) fun a _ b c d e f g i j k m _ o _=>have o:=(o).trans<|congrArg some<|aR g;have:=cw (J:=fun a b=>b.2.1=b.2.2.length∧b.2.2++dV s a=l++[u]++dV s u.kids∧b.2.2.length+eQ a<2^30) (a:=(b,c,d)) k f;have e:=bQ e k;have f:d.length+nU g<2^30:=(by grind[bh]);Kt 0 m<|Mx o<|K1 4 (.frz 3 [1,10,11,12,16,17]) (jQ (tR 8 true b 3<|aX iZ d) rt rt ti)<|Mq (ih g e b c d oA f) fun b _=>Kl 0 19 (dW a)<|Kf 0<|j b.1 b.2.1 b.2.2<|by grind[bh,gu,mw]
  · rw[hc]at hp
    exact qJ Tryz.func247 fun a=>K1 2 (.frz 3 [1,2,6,7]) (jQ (tR 8 true ep 3<|aX iZ l) rt rt ti)<|Me (NL s rs u ep n l hc)<|Kl 2 11 (ln aV u.kids)<|Mg 0<|Vd aV u.kids ep n l [1,10,11,12] (fun a _ b c d=>([bq (bU 248) [] [bY 0 0 0 0,bY 1 0 0 0],aW<|u.kids.map aV,nV u.kids.length,nV a],[aZ 1 false 0 [aW<|(s::rs).map aj],aZ 1 false 0 [aI 2 b 0 c none],aZ 8 true b<|d.map aV])) (fun a _ b c=>b=c.length∧c++dV s a=l++dV s u.kids∧c.length+eQ a<2^30) gR (fun _ _ b c d _ _ _ e _=>Kh 0 e<|Mf<|a (b,c,d)<|by grind[mC]) fun a _ b c d e f g i j k m _ o _=>have o:=(o).trans<|congrArg some<|aR g;have:=cw (J:=fun a b=>b.2.1=b.2.2.length∧b.2.2++dV s a=l++dV s u.kids∧b.2.2.length+eQ a<2^30) (a:=(b,c,d)) k f;have e:=bQ e k;have f:d.length+nU g<2^30:=(by grind[bh]);Kt 0 m<|Mx o<|K1 4 (.frz 3 [1,10,11,12,16,17]) (jQ (tR 8 true b 3<|aX iZ d) rt rt ti)<|Mq (ih g e b c d oA f) fun b _=>Kl 0 19 (dW a)<|Kf 0<|j b.1 b.2.1 b.2.2<|by grind[bh,gu,mw]
theorem He(s:PStep)(rs:List PStep):∀(u:TUnit),nU u≤2^20→By (lZ s u).isEmpty true→kD 247 [eU u,.func (.func 248) [] [.ptr 0 0 0 0,.ptr 1 0 0 0]] (ab [jd (s::rs),Nl]) (.tuple []) (ab [jd (s::rs),Nl]):=by
  refine TUnit.ind fun u ih hn he=>?_
  have hkl:=bf u
  have hp:=zd s u
  have he':=List.isEmpty_iff.1 (show(lZ s u).isEmpty=true from he)
  rw[he']at hp
  rcases Bool.eq_false_or_eq_true (bD s u)with hc|hc
  · grind
  · rw[hc]at hp
    have hp:dV s u.kids=[]:=hp.symm
    exact eM Tryz.func247 fun a=>K1 2 (.frz 2 [1,2,6,7]) (cj rt rt ti)<|Me (C6 s rs u hc)<|Kl 2 11 (ln aV u.kids)<|Mg 0<|tK aV u.kids [1,10,11,12] (fun a _=>([bq (bU 248) [] [bY 0 0 0 0,bY 1 0 0 0],aW<|u.kids.map aV,nV u.kids.length,nV a],[aZ 1 false 0 [aW<|(s::rs).map aj],aZ 1 false 0 [af]])) (fun a=>dV s a=[]) oA (fun _ _ _ _ _ b _=>Kh 0 b<|Mf a) fun a _ b _ c d e f g _ h i=>have h:=h.trans<|congrArg some<|aR c;have j:=bQ b f;have b:=bR (tV<|iz<|bQ b f) hn;have f:(lZ s c).isEmpty=true:=(by rw[gu]at i;rw[(List.append_eq_nil_iff.1 i).1];rfl);Kt 0 g<|Mx h<|K1 4 (.frz 2 [1,10,11,12,16,17]) (cj rt rt ti)<|Me (ih c j b f)<|Kl 0 19 (dW a)<|Kf 0<|e<|by grind[gu]
theorem Rs(s:PStep)(rs:List PStep):∀(u:TUnit),nU u≤2^20→By (lZ s u).isEmpty false→kC 247 [eU u,.func (.func 248) [] [.ptr 0 0 0 0,.ptr 1 0 0 0]] (ab [jd (s::rs),Nl])
    (fun v h=>∃y:Nat×Nat×List TUnit,(y.2.1=y.2.2.length∧y.2.2=lZ s u)∧v=.tuple []∧h=ab [jd (s::rs),EH y.1 y.2.1,BD y.1 y.2.2]):=by
  refine TUnit.ind fun u ih hn he=>?_
  have hq:=i7 u
  have hkl:=bf u
  have hp:=zd s u
  rcases Bool.eq_false_or_eq_true (bD s u)with hc|hc
  · rw[hc]at hp
    exact qJ Tryz.func247 fun a=>K1 2 (.frz 2 [1,2,6,7]) (cj rt rt ti)<|Me (Jj s rs u hc)<|Kl 2 11 (ln aV u.kids)<|Mg 0<|Vd aV u.kids (0:Nat) (1:Nat) ([u]:List TUnit) [1,10,11,12] (fun a _ b c d=>([bq (bU 248) [] [bY 0 0 0 0,bY 1 0 0 0],aW<|u.kids.map aV,nV u.kids.length,nV a],[aZ 1 false 0 [aW<|(s::rs).map aj],aZ 1 false 0 [aI 2 b 0 c none],aZ 8 true b<|d.map aV])) (fun a _ b c=>b=c.length∧c++dV s a=[u]++dV s u.kids∧c.length+eQ a<2^30) gR (fun _ _ b c d _ _ _ e _=>Kh 0 e<|Mf<|a (b,c,d)<|by grind[mC]) fun a _ b c d e f g i j k l _ m _=>have m:=(m).trans<|congrArg some<|aR g;have:=cw (J:=fun a b=>b.2.1=b.2.2.length∧b.2.2++dV s a=[u]++dV s u.kids∧b.2.2.length+eQ a<2^30) (a:=(b,c,d)) k f;have:=bQ e k;have e:d.length+nU g<2^30:=(by grind[bh]);Kt 0 l<|Mx m<|K1 4 (.frz 3 [1,10,11,12,16,17]) (jQ (tR 8 true b 3<|aX iZ d) rt rt ti)<|Mq (Hd s rs g b c d oA e) fun b _=>Kl 0 19 (dW a)<|Kf 0<|j b.1 b.2.1 b.2.2<|by grind[bh,gu,mw]
  · rw[hc]at hp
    have hne:dV s u.kids≠[]:=fun e=>by
      simp_all
    exact qJ Tryz.func247 fun a=>K1 2 (.frz 2 [1,2,6,7]) (cj rt rt ti)<|Me (C6 s rs u hc)<|Kl 2 11 (ln aV u.kids)<|Mg 0<|kw Nat Nat (List TUnit) aV u.kids [1,10,11,12] (fun a _=>([bq (bU 248) [] [bY 0 0 0 0,bY 1 0 0 0],aW<|u.kids.map aV,nV u.kids.length,nV a],[aZ 1 false 0 [aW<|(s::rs).map aj],aZ 1 false 0 [af]])) (fun a _ b c d=>([bq (bU 248) [] [bY 0 0 0 0,bY 1 0 0 0],aW<|u.kids.map aV,nV u.kids.length,nV a],[aZ 1 false 0 [aW<|(s::rs).map aj],aZ 1 false 0 [aI 2 b 0 c none],aZ 8 true b<|d.map aV])) (fun a=>a≠[]∧dV s a=dV s u.kids) (fun a _ b c=>b=c.length∧c++dV s a=dV s u.kids∧c.length+eQ a<2^30) (by(exact⟨K5 rfl hne,rfl⟩)) (fun _ _ _ _ _ _ _=>Mw .abs (sA:False)) (fun a _ b c d f g i j k _ l _=>have l:=(l).trans<|congrArg some<|aR d;have:=cw (J:=fun a _=>a≠[]∧dV s a=dV s u.kids) (a:=()) j c;have c:=bQ b j;have m:=bR (tV<|iz<|bQ b j) hn;have:nU d+eQ f≤2^20:=(by have z:=oG b j;omega);Kt 0 k<|Mx l<|K1 4 (.frz 2 [1,10,11,12,16,17]) (cj rt rt ti)<|Ms (lZ s d).isEmpty (fun b=>Me (He s rs d m b)<|Kl 0 19 (dW a)<|Kf 0<|g<|by(have e:dV s f=dV s u.kids:=(by grind[gu]);exact⟨K5 e hne,e⟩)) fun b=>Mq (ih d c m b) fun b _=>Kl 0 19 (dW a)<|Kf 0<|i b.1 b.2.1 b.2.2<|by grind[gu,mw]) (fun _ _ b c d _ _ _ f g=>Kh 0 f<|Mf<|a (b,c,d)<|by(refine⟨g.1,?_⟩;have:=g.2.1;rw[mC,dG]at this;simp_all)) fun a _ b c d f g i j _ k l m _ n _=>have n:=(n).trans<|congrArg some<|aR i;have:=cw (J:=fun a b=>b.2.1=b.2.2.length∧b.2.2++dV s a=dV s u.kids∧b.2.2.length+eQ a<2^30) (a:=(b,c,d)) l g;have:=bQ f l;have:=bR (tV<|iz<|bQ f l) hn;have:nU i+eQ j≤2^20:=(by have z:=oG f l;omega);Kt 0 m<|Mx n<|K1 4 (.frz 3 [1,10,11,12,16,17]) (jQ (tR 8 true b 3<|aX iZ d) rt rt ti)<|Mq (Hd s rs i b c d oA<|by grind[bh]) fun b _=>Kl 0 19 (dW a)<|Kf 0<|k b.1 b.2.1 b.2.2<|by grind[gu,mw]
theorem Up(u:TUnit)(hb:ki []=true):kP 204 [eU u,.ls (([]:List PStep).map aj)] (.ls ((dR u []).map aV)):=by
  have hv:=vW [] (by simp) (fun s h=>by grind)
  rw[G0 hb]
  have rr0 b' (h:(List.map aV [u])=b':=by(rw[eh,aR];rfl)):=h;let q:=[az [iV u.act,iV u.item,iV u.n,iV u.kind,aK u.label,aW (u.head.map aQ),aW (u.words.map aQ),aW (u.kids.map aV)]];exact bC Tryz.func204<|Kp 3 hv<|Kf 10 (Le.lsp (rr0 q)<|by rfl:Le _ (AV.ps q true))
def G3(u:TUnit)(s:PStep)(rs:List PStep)(z1000:List TUnit):Prop:=dR u (s::rs)=gc rs z1000∧eQ z1000≤2^22
noncomputable def G2(u:TUnit)(s:PStep)(rs:List PStep)(z1000:List TUnit):List AV×List AObj:=([AV.ptr 0 0 0 0,AV.ptr 1 0 0 0],[AObj.row 1 false 0 [AV.ls ((s::rs).map aj)],AObj.row 1 false 0 [AV.ls (z1000.map aV)]])
theorem RW(u:TUnit)(s:PStep)(rs:List PStep)(hn:nU u≤2^11)(hl:(s::rs).length<2^40)(hs:∀x,x∈s::rs→x.label.length≤2^39):kP 204 [eU u,.ls ((s::rs).map aj)] (.ls ((dR u (s::rs)).map aV)):=by
  have hv:=vW (s::rs) hl hs
  have hk:=H5 s
  have hpb:=GV s u fun x hx=>dL hx
  have hpm:nU u*nU u≤2^11*2^11:=Nat.mul_le_mul hn hn
  have hd:((s::rs).drop 1).length=rs.length:=rfl
  have rr0 b' (h:((dR u (s::rs)).map aV)=b':=by first|rfl|(rw[Jx ‹_›];rfl)|(rw[hj0.1,Ib])):=h;exact bC Tryz.func204<|Kp 3 hv<|Kn 0 (ki<|s::rs) (fun _=>Kf 0 (Le.lsn<|rr0 []:Le _ (af))) fun _=>Mg 0<|Mj (List TUnit) [3,5] (G2 u s rs) (G3 u s rs) (fun a=>Kl 1 21 (ln aj<|s::rs)<|Kp 5 hk<|Kb 0 (al s.kind 0&&dS s.label []) (fun _=>Kl 1 31 (Le.lsp (t:=true) (Eq.symm<|T3 (f:=aV) (g:=Go.Ev.eU) (ws:=[u]) aR) (aq 0:ax ([az [iV u.act,iV u.item,iV u.n,iV u.kind,aK u.label,aW (u.head.map aQ),aW (u.words.map aQ),aW (u.kids.map aV)]])=0))<|Mg 0<|M0 (.ren [1,2,0] [] [3,5])<|M1 (.frz 2 [3,5]) (cj rt rt ti)<|Mf<|a [u] (by exact⟨G1 (by omega) (by assumption),by grind[bh,mX]⟩:dR u (s::rs)=gc rs [u]∧eQ [u]≤2^22)) fun _=>Mg 1<|M0 (.ren [1,2,0] [] [3,5,16,17])<|M1 (.frz 2 [3,5,16,17]) (cj rt rt ti)<|Ms (lZ s u).isEmpty (fun b=>Me (He s rs u oA b)<|M1 (.obw 1<|aW []) (We bI rfl rfl)<|Mf<|a [] (by exact⟨by rw[xK (by omega) (by assumption),List.isEmpty_iff.1 b],by grind⟩:dR u (s::rs)=gc rs []∧eQ []≤2^22)) fun b=>Mq (Rs s rs u oA b) fun b c=>M2 (.fzo 1 2 [3,5]<|b.2.2.map aV) (cj rt rt ti) (cj (aq b.1) (tA aV b.2.2 b.2.1 (oA:(b.2.2).length=b.2.1))<|aX iZ b.2.2)<|Mf<|a b.2.2 (by exact⟨by rw[xK (by omega) (by assumption),c.2],by grind⟩:dR u (s::rs)=gc rs b.2.2∧eQ b.2.2≤2^22)) fun a b=>have:dR u (s::rs)=gc rs a∧eQ a≤2^22:=b;K1 0 (.slp<|((s::rs).drop 1).map aj) (cj (hM 2 aj (s::rs) fun _=>rfl) (et (sA:1≤((s::rs).map aj).length) (oA:((s::rs).map aj).length≤((s::rs).map aj).length))<|YX (f:=aj) (l:=s::rs) (k:=1))<|Kl 0 34 (ln aj<|List.drop 1<|s::rs)<|Mg 0<|M0 (.ren [1,0] [] [5,33,34,35])<|M1 (.frz 1 [5,33,34,35]) (et rt ti)<|JI aj (List.drop 1<|s::rs) a [5,33,34,35] (fun a _ b=>([bY 0 0 0 0,aW<|((s::rs).drop 1).map aj,nV ((s::rs).drop 1).length,nV a],[aZ 1 false 0 [aW<|b.map aV]])) (fun a b=>dR u (s::rs)=gc a b∧eQ b≤2^22) sA (fun _ _ a _ _ _ b hj0=>Kh 0 b<|Kf 1<|b6<|rr0<|a.map aV) fun a _ b _ _ c d e _ f _ g hj0=>have:b.length≤eQ b:=yq _;Kt 0 f<|Mx g<|Kl 5 40 (ln aV b)<|Mg 0<|kw Nat Nat (List TUnit) aV b [5,7,8,33,34,35,39,40,41] (fun d _=>([bY 0 0 0 0,bY 1 0 0 0,af,aW<|((s::rs).drop 1).map aj,nV ((s::rs).drop 1).length,nV a,aW<|b.map aV,nV b.length,nV d],[aZ 1 false 0 [aW<|b.map aV],aZ 2 false 0 [az [iV c.kind,aK c.label]]])) (fun d _ e f g=>([bY 0 0 0 0,bY 1 0 0 0,aI 2 e 0 f none,aW<|((s::rs).drop 1).map aj,nV ((s::rs).drop 1).length,nV a,aW<|b.map aV,nV b.length,nV d],[aZ 1 false 0 [aW<|b.map aV],aZ 2 false 0 [az [iV c.kind,aK c.label]],aZ 8 true e<|g.map aV])) (fun a=>cp c a=cp c b) (fun a _ d e=>d=e.length∧e++cp c a=cp c b∧e.length+eQ a<2^30) (by rfl) (fun _ _ _ _ _ b c=>Kh 0 b<|Kl 0 61 bI<|Kl 1 62 (dW a)<|K1 0 (.frz 1 [5,33,34,35]) (et rt ti)<|Mf<|e []<|by exact fA hj0 c) (fun d _ e f g i j k l n _ o _=>have p:=(o).trans<|congrArg some<|aR g;have:=cw (J:=fun a _=>cp c a=cp c b) (a:=()) l f;have:nU g+eQ i≤eQ b:=oG e l;have:g.kids.length<nU g:=bf g;have:nU g=1+eQ g.kids:=i7 g;Kt 0 n<|Mx p<|Kl 5 47 (ln aV g.kids)<|K1 0 (.frz 2 [5,7,8,33,34,35,39,40,41,46,47,48]) (cj rt rt ti)<|kw Nat Nat (List TUnit) aV g.kids [5,7,8,33,34,35,39,40,41,46,47,48] (fun e _=>([bY 0 0 0 0,bY 1 0 0 0,af,aW<|((s::rs).drop 1).map aj,nV ((s::rs).drop 1).length,nV a,aW<|b.map aV,nV b.length,nV d,aW<|g.kids.map aV,nV g.kids.length,nV e],[aZ 1 false 0 [aW<|b.map aV],aZ 2 false 0 [az [iV c.kind,aK c.label]]])) (fun e _ f i j=>([bY 0 0 0 0,bY 1 0 0 0,aI 2 f 0 i none,aW<|((s::rs).drop 1).map aj,nV ((s::rs).drop 1).length,nV a,aW<|b.map aV,nV b.length,nV d,aW<|g.kids.map aV,nV g.kids.length,nV e],[aZ 1 false 0 [aW<|b.map aV],aZ 2 false 0 [az [iV c.kind,aK c.label]],aZ 8 true f<|j.map aV])) (fun a=>List.filter (bD c) a++cp c i=cp c b) (fun a _ d e=>d=e.length∧e++(List.filter (bD c) a++cp c i)=cp c b∧e.length+(eQ a+eQ i)<2^30) (by simp_all[gA]) (fun _ _ _ _ _ a _=>Kh 0 a<|Kl 0 60 (dW d)<|Kf 0<|j sA) (fun a _ d e f j k l n p _ o _=>have o:=(o).trans<|congrArg some<|aR f;have:=cw (J:=fun a _=>List.filter (bD c) a++cp c i=cp c b) (a:=()) n e;have:nU f+eQ j≤eQ g.kids:=oG d n;Kt 0 p<|Mx o<|Kp 4 (kI f c)<|Mb (bD c f) (fun _=>K1 3 (.obj 3<|aZ 8 true 0<|List.map aV [f]) (congrArg (aZ 8 true 0)<|T3 (f:=aV) (g:=Go.Ev.eU) (ws:=[f]) aR)<|Kl 1 59 (dW a)<|K1 0 (.ren [0,1,3,2] [3] [5,7,8,33,34,35,39,40,41,46,47,48]) (tS 8 true 0<|aX iZ [f])<|M1 (.frz 3 [5,7,8,33,34,35,39,40,41,46,47,48]) (jQ (tR 8 true 0 3<|aX iZ [f]) rt rt ti)<|Mf<|l 0 1 [f] gR) fun _=>Kl 0 59 (dW a)<|K1 0 (.frz 2 [5,7,8,33,34,35,39,40,41,46,47,48]) (cj rt rt ti)<|Mf<|k sA) (fun _ _ a e f _ _ _ g _=>Kh 0 g<|Kl 0 60 (dW d)<|Kf 0<|k a e f gR) fun a _ d e f j k l n _ p q r _ o _=>have o:=(o).trans<|congrArg some<|aR l;have k:=cw (J:=fun a d=>d.2.1=d.2.2.length∧d.2.2++(List.filter (bD c) a++cp c i)=cp c b∧d.2.2.length+(eQ a+eQ i)<2^30) (a:=(d,e,f)) q k;have:nU l+eQ n≤eQ g.kids:=oG j q;Kt 0 r<|Mx o<|Kp 4 (kI l c)<|Mb (bD c l) (fun _=>K1 2 .app (cj (aq d) (sA:e=(f.map aV).length) (by(refine aN (m:=2^31) ?_ ?_ ?_<;>omega):small (e+1) 120=true))<|M1 (.obj 2<|aZ 8 true (d+1)<|(f++[l]).map aV) (congrArg (aZ 8 true<|d+1)<|yx (f:=aV) (g:=Go.Ev.eU) (l:=f) (ws:=[l]) aR)<|Kl 1 59 (dW a)<|K1 0 (.frz 3 [5,7,8,33,34,35,39,40,41,46,47,48]) (jQ (tR 8 true (d+1) 3<|aX iZ<|f++[l]) rt rt ti)<|Mf<|p (d+1) (e+1) (f++[l])<|by exact hB1 k (by omega)) fun _=>Kl 0 59 (dW a)<|K1 0 (.frz 3 [5,7,8,33,34,35,39,40,41,46,47,48]) (jQ (tR 8 true d 3<|aX iZ f) rt rt ti)<|Mf<|p d e f<|by exact hB0 k (by omega)) (fun _ _ b c f _ _ _ g i=>let j:=List.map aV f;Kh 0 g<|Mg 0<|M2 (.fsl 2 [5,33,34,35] 61 j) (cj rt rt ti) (cj (aq b) (tA aV f c (oA:(f).length=c))<|aX iZ f)<|Ml 61 (eS j false<|aX iZ f)<|Kl 1 62 (dW a)<|K1 0 (.frz 1 [5,33,34,35]) (et rt ti)<|Mf<|e f<|by exact fB hj0 i.2.1) fun d _ e f g i j k l _ n o p _ q _=>have r:=(q).trans<|congrArg some<|aR k;have j:=cw (J:=fun a d=>d.2.1=d.2.2.length∧d.2.2++cp c a=cp c b∧d.2.2.length+eQ a<2^30) (a:=(e,f,g)) o j;have:nU k+eQ l≤eQ b:=oG i o;have:k.kids.length<nU k:=bf k;have:nU k=1+eQ k.kids:=i7 k;Kt 0 p<|Mx r<|Kl 5 47 (ln aV k.kids)<|K1 0 (.frz 3 [5,7,8,33,34,35,39,40,41,46,47,48]) (jQ (tR 8 true e 3<|aX iZ g) rt rt ti)<|Vd aV k.kids e f g [5,7,8,33,34,35,39,40,41,46,47,48] (fun e _ f g i=>([bY 0 0 0 0,bY 1 0 0 0,aI 2 f 0 g none,aW<|((s::rs).drop 1).map aj,nV ((s::rs).drop 1).length,nV a,aW<|b.map aV,nV b.length,nV d,aW<|k.kids.map aV,nV k.kids.length,nV e],[aZ 1 false 0 [aW<|b.map aV],aZ 2 false 0 [az [iV c.kind,aK c.label]],aZ 8 true f<|i.map aV])) (fun a _ d e=>d=e.length∧e++(List.filter (bD c) a++cp c l)=cp c b∧e.length+(eQ a+eQ l)<2^30) (by(exact gB j)) (fun _ _ a e f _ _ _ g _=>Kh 0 g<|Kl 0 60 (dW d)<|Kf 0<|n a e f gR) fun a _ d e f g i j n o p r _ q _=>have q:=(q).trans<|congrArg some<|aR j;have i:=cw (J:=fun a d=>d.2.1=d.2.2.length∧d.2.2++(List.filter (bD c) a++cp c l)=cp c b∧d.2.2.length+(eQ a+eQ l)<2^30) (a:=(d,e,f)) p i;have:nU j+eQ n≤eQ k.kids:=oG g p;Kt 0 r<|Mx q<|Kp 4 (kI j c)<|Mb (bD c j) (fun _=>K1 2 .app (cj (aq d) (sA:e=(f.map aV).length) (by(refine aN (m:=2^31) ?_ ?_ ?_<;>omega):small (e+1) 120=true))<|M1 (.obj 2<|aZ 8 true (d+1)<|(f++[j]).map aV) (congrArg (aZ 8 true<|d+1)<|yx (f:=aV) (g:=Go.Ev.eU) (l:=f) (ws:=[j]) aR)<|Kl 1 59 (dW a)<|K1 0 (.frz 3 [5,7,8,33,34,35,39,40,41,46,47,48]) (jQ (tR 8 true (d+1) 3<|aX iZ<|f++[j]) rt rt ti)<|Mf<|o (d+1) (e+1) (f++[j])<|by exact hB1 i (by omega)) fun _=>Kl 0 59 (dW a)<|K1 0 (.frz 3 [5,7,8,33,34,35,39,40,41,46,47,48]) (jQ (tR 8 true d 3<|aX iZ f) rt rt ti)<|Mf<|o d e f<|by exact hB0 i (by omega)
theorem Uo(u:TUnit)(p:List PStep)(hn:nU u≤2^11)(hl:p.length<2^40)(hs:∀x,x∈p→x.label.length≤2^39):kP 204 [eU u,.ls (p.map aj)] (.ls ((dR u p).map aV)):=by
  cases p with
  |nil=>exact Up u rfl
  |cons s rs=>grind[RW]
theorem NS(u:TUnit)(p:List PStep)(L:List TUnit)(hf:kP 204 [eU u,.ls (p.map aj)] (.ls (L.map aV)))(hL:L.length≤2^22):kP 140 [eU u,.ls (p.map aj)] (.ls ((L.map bz).map aY)):=by
  have rr0 b' (h:((L.map bz).map aY)=b':=by first|rfl|(rw[←hj0];rfl)|(rw[←hj0.2.2.1];simp)):=h;exact bC Tryz.func140<|Kp 4 hf<|Kl 0 11 (ln aV L)<|K1 0 (.frz 0 [5,10,11,12]) ti<|kw Nat Nat (List PId) aV L [5,10,11,12] (fun a _=>([af,aW<|L.map aV,nV L.length,nV a],[])) (fun a _ b c d=>([aI 0 b 0 c none,aW<|L.map aV,nV L.length,nV a],[aZ 3 true b<|d.map aY])) (fun a=>a=L) (fun a _ b c=>b=c.length∧(0:Nat)<c.length∧c++List.map bz a=List.map bz L∧c.length+a.length=L.length) (by rfl) (fun _ _ _ _ _ a hj0=>Kh 0 a<|Kf 1 (Le.lsn<|rr0 []:Le _ (af))) (fun a _ _ b c d _ e f g _ i _=>have i:=(i).trans<|congrArg some<|aR c;have hj0:=cw (J:=fun a _=>a=L) (a:=()) f b;Kt 0 g<|Mx i<|Kl 9 21 (g0 a)<|Mg 0<|M0 (.ren [1,0] [] [5,10,11,12])<|M1 (.frz 1 [5,10,11,12]) (et rt ti)<|Mf<|e 0 1 [PId.mk c.act c.item c.n]<|by(refine⟨rfl,by simp,?_,?_⟩<;>(rw[←hj0])<;>(first|rfl|grind))) (fun _ _ a b c _ _ _ d hj0=>Kh 0 d<|Mg 1<|M2 (.fsl 0 [] 4<|c.map aY) ti (cj (aq a) (tA aY c b (oA:(c).length=b))<|aX Ji c)<|Ml 4 (eS (c.map aY) false<|aX Ji c)<|Mf<|b6<|rr0<|c.map aY) fun a _ b c d _ e f g _ i j k _ l _=>have l:=(l).trans<|congrArg some<|aR f;have hj0:=cw (J:=fun a b=>b.2.1=b.2.2.length∧(0:Nat)<b.2.2.length∧b.2.2++List.map bz a=List.map bz L∧b.2.2.length+a.length=L.length) (a:=(b,c,d)) j e;Kt 0 k<|Mx l<|K1 6 .app (cj (aq b) (sA:c=(d.map aY).length) (by(refine aN (m:=2^25) ?_ ?_ ?_<;>omega):small (c+1) 24=true))<|M1 (.obj 0<|aZ 3 true (b+1)<|(d++[PId.mk f.act f.item f.n]).map aY) (congrArg (aZ 3 true<|b+1)<|cM (f:=aY) (l:=d) (ws:=[PId.mk f.act f.item f.n]))<|Kl 1 21 (g0 a)<|K1 0 (.frz 1 [5,10,11,12]) (et (tR 3 true (b+1) 1<|aX Ji<|d++[PId.mk f.act f.item f.n]) ti)<|Mf<|i (b+1) (c+1) (d++[PId.mk f.act f.item f.n])<|by(refine⟨by simp_all,by simp,?_,?_⟩<;>first|(rw[←hj0.2.2.1,eh,md];rfl)|(rw[←hj0.2.2.1];simp;done)|grind)
theorem NO(u:TUnit)(p:List PStep)(hf:kP 140 [eU u,.ls (p.map aj)] (.ls (([]:List PId).map aY))):kP 107 [eU u,.ls (p.map aj)] (.tuple [aY bT,iV 7]):=by
  exact bC Tryz.func107<|Kp 4 hf<|Kf 8<|bd<|eV [az [iV 0,iV 0,iV 0],iV 7]
theorem NR(u x:TUnit)(p:List PStep)(hf:kP 140 [eU u,.ls (p.map aj)] (.ls ([bz x].map aY))):kP 107 [eU u,.ls (p.map aj)] (.tuple [aY (bz x),iV 0]):=by
  exact bC Tryz.func107<|Kp 4 hf<|Kf 13<|bd<|eV [az [iV (bz x).a,iV (bz x).i,iV (bz x).n],iV 0]
theorem NP(u:TUnit)(p:List PStep)(a b:PId)(r:List PId)(hf:kP 140 [eU u,.ls (p.map aj)] (.ls ((a::b::r).map aY))):kP 107 [eU u,.ls (p.map aj)] (.tuple [aY bT,iV 8]):=by
  have q1:al (Int.ofNat (r.length+1+1)) 0=false:=rfl
  have q2:al (Int.ofNat (r.length+1+1)) 1=false:=rfl
  exact bC Tryz.func107<|Kp 4 hf<|Kl 2 11 (ln aY<|a::b::r)<|Kf 8<|bd<|eV [az [iV 0,iV 0,iV 0],iV 8]
/-- The way of an address, whatever it finds. -/
theorem NN(u:TUnit)(p:List PStep)(hf:kP 204 [eU u,.ls (p.map aj)] (.ls ((dR u p).map aV)))(hn:nU u≤2^11):kP 107 [eU u,.ls (p.map aj)] (.tuple [aY (aG u p).1,iV (aG u p).2]):=by
  have ha:=NS u p (dR u p) hf (Jz p hn)
  cases e:dR u p with
  |nil=>grind[G9,NO]
  | cons x r=>
    cases r with
    |nil=>grind[G8,NR]
    |cons y r=>grind[G7,NP]
noncomputable abbrev zU:AV:=.agg [iV 0,iV 0,iV 0,iV 0,.str [],.nils,.nils,.nils]
noncomputable abbrev dB(xs:List AV):AObj:=.row 8 false 0 xs
theorem UN{L Z:List AV}{n i:Nat}(hn:L.length=n)(hi:i<n):((L++Z).drop (i+1)).take (n-(i+1))=L.drop (i+1):=by
  grind
theorem UO{L Z:List AV}{n i:Nat}(hn:L.length=n)(hi:i<n):bj (L++Z) (0+i) (L.drop (i+1))=L.eraseIdx i++(L.drop (n-1)++Z):=by
  unfold bj
  grind
theorem EC{L Z:List AV}{z:AV}{n i:Nat}(hn:L.length=n)(hi:i<n):bj (L.eraseIdx i++(L.drop (n-1)++Z)) (n-1) (List.replicate 1 z)=L.eraseIdx i++(z::Z):=by
  unfold bj
  have h1:(L.eraseIdx i).length=n-1:=by grind
  have h2:(L.drop (n-1)).length=1:=by grind
  grind
theorem Yu{a b:Nat}(h:a≠b):al (Int.ofNat a) (Int.ofNat b)=false:=by
  grind[pK]
theorem RG(L Z:List AV)(n k i:Nat)(hi:i+1<n)(hn:L.length=n)(hs:n≤2^20)(hf:dc 8 L=true)(hZ:Z.length=k)(hT:ax (L++Z)=0):kD 228 [.slice 0 0 0 n (some (n+k)),nV i,nV (i+1)] (ab [dB (L++Z)]) (.slice 0 0 0 (n-1) (some (n+k))) (ab [dB (L.eraseIdx i++(zU::Z))]):=by
  have hq:al (Int.ofNat i) (Int.ofNat (i+1))=false:=Yu (by omega)
  let q:=AHeap.mk 1000000 (bB (ab [aZ 8 false 0 (L++Z)]) ([0]) Tr.nil);let q1:=ab [aZ 8 false 0 (L.eraseIdx i++(L.drop (n-1)++Z))];let q2:=ab [aZ 8 false 0 (L++Z)];let q3:=(some (aI 0 0 0 n (some (n+k))));let q4:=aI 0 0 (i+1) (n-(i+1)) (some (n+k-(i+1)));let q5:=(some (nV (i+1)));let q6:=(some (nV i));let q7:=(some (nV n));let q8:=AHeap.mk 1 (bB q2 ([0,0]) Tr.nil);let q9:=aI 0 0 0 (n-1) (some (n+k));let q10:=aI 0 0 (n-1) 1 (some (k+1));let q11:=aI 0 0 0 i (some (n+k));exact eM Tryz.func228 fun a=>Ko 5 (by exact DB (xs:=L++Z) (l:=i) (h:=i+1) (m:=n) (by kernel_rfl) (by rfl) (by rfl) (by rfl) (by omega) (by omega) (by omega) (by omega) (by omega) (by omega) (by omega):ba q2 (dJ (8) q2 q3 q6 q5 q7)=some (ARes.val (AV.slice 0 0 i 1 (some (n-i))) q2))<|Kh 2 hq<|Kv 4 (by exact iq (xs:=L++Z) (l:=0) (h:=i) (by kernel_rfl) (by rfl) (by rfl) (by omega) (by omega) (by omega) (by omega) (by omega) (by omega):ba (q) (dJ (8) (q) q3 (none) q6 (none))=some (ARes.val q11 q))<|Kv 1 (by exact iq (xs:=L++Z) (l:=i+1) (h:=n) (by kernel_rfl) (by rfl) (by rfl) (by omega) (by omega) (by omega) (by omega) (by omega) (by omega):ba (q) (dJ (8) (q) q3 q5 (none) (none))=some (ARes.val q4 q))<|Md rt (gT (tR 8 false 0 1 (oA:ax (L++Z)=0))<|gT (tR 8 false 0 1 (oA:ax (L++Z)=0)) rt) (by exact MW (new:=L.drop (i+1)) rfl (y7 rfl (UN hn (by omega))) (rg hf) (fun e=>by have:=congrArg List.length e;grind) (by grind) (by grind) (aN (m:=2^20) (by grind) (by omega) (by omega)) (by grind) (UO hn (by omega)):ec (co (8) (120) (q8) ((some q11)) ((some q4)))=some (ARes.val q9 (AHeap.put q8 0 (AObj.row 8 false 0 (L.eraseIdx i++(L.drop (n-1)++Z))))))<|Ko 4 (by exact iq (xs:=L.eraseIdx i++(L.drop (n-1)++Z)) (l:=n-1) (h:=n) (by kernel_rfl) (by rfl) (by rfl) (by omega) (by omega) (by omega) (by omega) (by omega) (by omega):ba q1 (dJ (8) q1 ((some q9)) ((some (nV (n-1)))) q7 (none))=some (ARes.val q10 q1))<|Mo (by exact Jp rfl (by kernel_rfl) (EC hn (by omega)):ec (wW (8) (AV.agg [iV 0,iV 0,iV 0,iV 0,AV.str [],AV.nils,AV.nils,AV.nils]) q1 ((some q10)))=some (ARes.val (AV.tuple []) (ab [AObj.row 8 false 0 (L.eraseIdx i++zU::Z)])))<|Kf 1 a
theorem RF(L Z:List AV)(k i:Nat)(hn:L.length=i+1)(hs:i<2^20)(hk:0<k)(hZ:Z.length=k)(hT:ax (L++Z)=0):kD 228 [.slice 0 0 0 (i+1) (some (i+1+k)),nV i,nV (i+1)] (ab [dB (L++Z)]) (.slice 0 0 0 i (some (i+1+k))) (ab [dB (L.eraseIdx i++(zU::Z))]):=by
  have hq:al (Int.ofNat i) (Int.ofNat (i+1))=false:=Yu (by omega)
  have hr:L.eraseIdx i++(L.drop (i+1-1)++Z)=L++Z:=by
    rw[OE,B9 (by omega),dG,←md,show i+1-1=i from rfl,JR]
  have hc:bj (L++Z) i (List.replicate 1 zU)=L.eraseIdx i++(zU::Z):=by
    have h:=EC (z:=zU) (Z:=Z) hn (show i<i+1 by omega)
    grind
  let q:=ab [aZ 8 false 0 (L++Z)];let q1:=AHeap.mk 1000000 (bB q ([0]) Tr.nil);let q2:=(some (nV (i+1)));let q3:=aI 0 0 0 i (some (i+1+k));let q4:=(some (aI 0 0 0 (i+1) (some (i+1+k))));let q5:=(some (nV i));let q6:=AHeap.mk 1 (bB q ([0,0]) Tr.nil);let q7:=aI 0 0 (i+1) 0 (some k);let q8:=aI 0 0 i 1 (some (k+1));exact eM Tryz.func228 fun a=>Ko 5 (by exact DB (xs:=L++Z) (l:=i) (h:=i+1) (m:=i+1) (by kernel_rfl) (by rfl) (by rfl) (by rfl) (by omega) (by omega) (by omega) (by omega) (by omega) (by omega) (by omega):ba q (dJ (8) q q4 q5 q2 q2)=some (ARes.val (AV.slice 0 0 i 1 (some 1)) q))<|Kh 2 hq<|Kv 4 (by exact iq (xs:=L++Z) (l:=0) (h:=i) (by kernel_rfl) (by rfl) (by rfl) (by omega) (by omega) (by omega) (by omega) (by omega) (by omega):ba (q1) (dJ (8) (q1) q4 (none) q5 (none))=some (ARes.val q3 q1))<|Kv 1 (by exact iq (xs:=L++Z) (l:=i+1) (h:=i+1) (by kernel_rfl) (by rfl) (by rfl) (by omega) (by omega) (by omega) (by omega) (by omega) (by omega):ba (q1) (dJ (8) (q1) q4 q2 (none) (none))=some (ARes.val q7 q1))<|Md rt (gT (tR 8 false 0 1 (oA:ax (L++Z)=0))<|gT (tR 8 false 0 1 (oA:ax (L++Z)=0)) rt) (by exact Sa (y7 rfl List.take_zero):ec (co (8) (120) (q6) ((some q3)) ((some q7)))=some (ARes.val q3 q6))<|Ko 4 (by exact iq (xs:=L++Z) (l:=i) (h:=i+1) (by kernel_rfl) (by rfl) (by rfl) (by omega) (by omega) (by omega) (by omega) (by omega) (by omega):ba q (dJ (8) q ((some q3)) q5 q2 (none))=some (ARes.val q8 q))<|Mo (by exact Jp rfl (by kernel_rfl) hc:ec (wW (8) (AV.agg [iV 0,iV 0,iV 0,iV 0,AV.str [],AV.nils,AV.nils,AV.nils]) q ((some q8)))=some (ARes.val (AV.tuple []) (ab [AObj.row 8 false 0 (L.eraseIdx i++zU::Z)])))<|Kf 1 a
theorem RE(L:List AV)(i:Nat)(hn:L.length=i+1)(hs:i<2^20)(hT:ax L=0):kD 228 [.slice 0 0 0 (i+1) (some (i+1)),nV i,nV (i+1)] (ab [dB L]) (.slice 0 0 0 i (some (i+1))) (ab [dB (L.eraseIdx i++[zU])]):=by
  have hq:al (Int.ofNat i) (Int.ofNat (i+1))=false:=Yu (by omega)
  have hr:L.eraseIdx i++(L.drop (i+1-1)++[])=L:=by
    rw[OE,B9 (by omega),dG,dG,show i+1-1=i from rfl,JR]
  have hc:bj L i (List.replicate 1 zU)=L.eraseIdx i++[zU]:=by
    have h:=EC (z:=zU) (Z:=[]) hn (show i<i+1 by omega)
    grind
  let q:=ab [aZ 8 false 0 L];let q1:=AHeap.mk 1000000 (bB q ([0]) Tr.nil);let q2:=(some (nV (i+1)));let q3:=aI 0 0 0 i (some (i+1));let q4:=(some (aI 0 0 0 (i+1) (some (i+1))));let q5:=(some (nV i));let q6:=aI 0 0 i 1 (some 1);let q7:=AHeap.mk 1 (bB q ([0,0]) Tr.nil);let q8:=aI 0 0 0 0 (some 0);exact eM Tryz.func228 fun a=>Ko 5 (by exact DB (xs:=L) (l:=i) (h:=i+1) (m:=i+1) (by kernel_rfl) (by rfl) (by rfl) (by rfl) (by omega) (by omega) (by omega) (by omega) (by omega) (by omega) (by omega):ba q (dJ (8) q q4 q5 q2 q2)=some (ARes.val q6 q))<|Kh 2 hq<|Kv 4 (by exact iq (xs:=L) (l:=0) (h:=i) (by kernel_rfl) (by rfl) (by rfl) (by omega) (by omega) (by omega) (by omega) (by omega) (by omega):ba (q1) (dJ (8) (q1) q4 (none) q5 (none))=some (ARes.val q3 q1))<|Kv 1 (by exact Kq (xs:=L) (l:=i+1) (h:=i+1) (by kernel_rfl) (by rfl) (by rfl) (by rfl) rfl:ba (q1) (dJ (8) (q1) q4 q2 (none) (none))=some (ARes.val q8 q1))<|Md rt (gT (tR 8 false 0 1 (oA:ax (L)=0))<|gT (tR 8 false 0 1 (oA:ax (L)=0)) rt) (by exact Sa (y7 rfl List.take_zero):ec (co (8) (120) (q7) ((some q3)) ((some q8)))=some (ARes.val q3 q7))<|Ko 4 (by exact iq (xs:=L) (l:=i) (h:=i+1) (by kernel_rfl) (by rfl) (by rfl) (by omega) (by omega) (by omega) (by omega) (by omega) (by omega):ba q (dJ (8) q ((some q3)) q5 q2 (none))=some (ARes.val q6 q))<|Mo (by exact Jp rfl (by kernel_rfl) hc:ec (wW (8) (AV.agg [iV 0,iV 0,iV 0,iV 0,AV.str [],AV.nils,AV.nils,AV.nils]) q ((some q6)))=some (ARes.val (AV.tuple []) (ab [AObj.row 8 false 0 (L.eraseIdx i++[zU])])))<|Kf 1 a
theorem RD(L Z:List AV)(n i:Nat)(hi:i<n)(hn:L.length=n)(hs:n≤2^20)(hf:dc 8 L=true)(hT:ax (L++Z)=0):kD 228 [.slice 0 0 0 n (some (n+Z.length)),nV i,nV (i+1)] (ab [dB (L++Z)]) (.slice 0 0 0 (n-1) (some (n+Z.length))) (ab [dB (L.eraseIdx i++(zU::Z))]):=by
  rcases fe (i+1) n with h|h
  · exact RG L Z n _ i h hn hs hf rfl hT
  · obtain rfl:n=i+1:=by omega
    cases Z with
    |nil=>rw[dG];rw[dG]at hT;exact RE L i hn (by omega) hT
    |cons z r=>exact RF L (z::r) _ i hn (by omega) (pM _) rfl hT
/-- A list with an element more at a place. -/
def gi(i:Nat)(x:AV)(l:List AV):List AV:=l.take i++(x::l.drop i)
theorem Ax{i:Nat}{x:AV}{l:List AV}(h:i≤l.length):(gi i x l).length=l.length+1:=by
  grind[gi]
theorem GA{x:AV}{l:List AV}{n:Nat}(h:l.length=n):gi n x l=l++[x]:=by
  grind[gi]
theorem Y5(n:Nat):al (Int.ofNat n) (Int.ofNat n)=true:=bw _
theorem aae{a b:Nat}(h:a<b):au (Int.ofNat a) (Int.ofNat b)=true:=lX (by simp_all)
theorem aaf{a b:Nat}(h:b≤a):au (Int.ofNat a) (Int.ofNat b)=false:=jx (by simp_all)
theorem UG{L Z:List AV}{x z:AV}{n:Nat}(h:L.length=n):bj (L++z::Z) (0+n) [x]=gi n x L++Z:=by
  unfold bj
  rw[GA h,eE,←h,List.take_left,show(L++z::Z).drop (L.length+[x].length)=Z by rw[←yp,List.drop_left];rfl]
theorem TM{L Z:List AV}{z:AV}{n i:Nat}(h:L.length=n)(hi:i<n):bj (L++z::Z) (i+1) (L.drop i)=L.take (i+1)++(L.drop i++Z):=by
  unfold bj
  rw[List.take_append_of_le_length (by omega),md,wz,show i+1+(L.length-i)=L.length+1 by omega,←yp,List.drop_left];rfl
theorem Qw{L Z:List AV}{x:AV}{n i:Nat}(h:L.length=n)(hi:i<n):bj (L.take (i+1)++(L.drop i++Z)) i [x]=gi i x L++Z:=by
  unfold bj gi
  grind
theorem TB{L:List AV}{z x:AV}{n i:Nat}(h:L.length=n)(hi:i<n):bj (L.take i++List.replicate (n+1-i) z) i [x]=L.take i++(x::List.replicate (n-i) z):=by
  unfold bj
  have h1:(L.take i).length=i:=by grind
  have e:n+1-i=(n-i)+1:=by omega
  rw[List.take_append_of_le_length (by omega),CX (by omega),←yp]
  simp_all
theorem Qz{L:List AV}{z x:AV}{n i:Nat}(h:L.length=n)(hi:i<n):bj (L.take i++(x::List.replicate (n-i) z)) (i+1) (L.drop i)=gi i x L:=by
  unfold bj gi
  have h1:(L.take i).length=i:=by grind
  have h2:(L.take i++(x::List.replicate (n-i) z)).length=n+1:=by grind
  have e:(L.take i++(x::List.replicate (n-i) z)).drop (i+1+(L.drop i).length)=[]:=B9 (by grind)
  grind
theorem QD(L Z:List AV)(x z:AV)(t:Bool)(n k:Nat)(hn:L.length=n)(hs:n<2^20)(hk:Z.length=k)(hx:dc 8 [x]=true):kD 163 [.slice 0 0 0 n (some (n+(k+1))),nV n,.ps [x] t] (ab [dB (L++z::Z)]) (.slice 0 0 0 (n+1) (some (n+(k+1)))) (ab [dB (gi n x L++Z)]):=by
  have hq:=Y5 n
  let q:=ab [aZ 8 false 0 (L++z::Z)];exact eM Tryz.func163 fun a=>Ko 2 (by exact iq (xs:=L++z::Z) (l:=n) (h:=n) (by kernel_rfl) (by rfl) (by rfl) (by omega) (by omega) (by omega) (by omega) (by omega) (by omega):ba q (dJ (8) q ((some (AV.slice 0 0 0 n (some (n+(k+1)))))) ((some (nV n))) (none) (none))=some (ARes.val (AV.slice 0 0 n 0 (some (k+1))) q))<|Kt 11 hq<|Ko 1 (by exact MW (new:=[x]) rfl (by rfl) hx (km _ _) (by simp_all) (by simp_all) (aN (m:=2^20) (by grind) (by omega) (by omega)) rfl (UG hn):ec (co (8) (120) (ab [AObj.row 8 false 0 (L++z::Z)]) ((some (AV.slice 0 0 0 n (some (n+(k+1)))))) ((some (AV.ps [x] t))))=some (ARes.val (AV.slice 0 0 0 (n+1) (some (n+(k+1)))) (ab [AObj.row 8 false 0 (gi n x L++Z)])))<|Kf 0 a
theorem QC(L:List AV)(x:AV)(t:Bool)(n:Nat)(hn:L.length=n)(hs:n<2^20)(hx:dc 8 [x]=true)(hT:ax L=0)(hI:ax (gi n x L)=0):kD 163 [.slice 0 0 0 n (some n),nV n,.ps [x] t] (ab [dB L]) (.ls (gi n x L)) (ab [dB L]):=by
  have hq:=Y5 n
  have hIl:(gi n x L).length=n+1:=(Ax (by omega)).trans (by omega)
  let q:=ab [aZ 8 false 0 L];exact eM Tryz.func163 fun a=>Ko 2 (by exact Kq (xs:=L) (l:=n) (h:=n) (by kernel_rfl) (by rfl) (by rfl) (by rfl) rfl:ba q (dJ (8) q ((some (AV.slice 0 0 0 n (some n)))) ((some (nV n))) (none) (none))=some (ARes.val (AV.slice 0 0 0 0 (some 0)) q))<|Kt 11 hq<|Ko 1 (by exact Vj (new:=[x]) rfl (by rfl) hx (km _ _) (by simp_all) (aN (m:=2^20) (by grind) (by omega) (by omega)) (by grind[GA]) ((Ax (by omega)).trans (by omega)):ec (co (8) (120) (ab [AObj.row 8 false 0 L]) ((some (AV.slice 0 0 0 n (some n)))) ((some (AV.ps [x] t))))=some (ARes.val (AV.slice 1 0 0 (n+1) none) (ab [AObj.row 8 false 0 L,AObj.row 8 true 0 (gi n x L)])))<|Mg 0<|M2 (.fsl 1 [] 6<|gi n x L) (et (tR 8 false 0 1 (oA:ax (L)=0)) ti) (cj (aq 0) (Vi (oA:(gi n x L).length=n+1)) (oA:ax (gi n x L)=0))<|Ml 6 (eS (gi n x L) false (oA:ax (gi n x L)=0))<|Mf a
theorem QB(L Z:List AV)(x z:AV)(t:Bool)(n k i:Nat)(hi:i<n)(hn:L.length=n)(hs:n<2^20)(hk:Z.length=k)(hx:dc 8 [x]=true)(hf:dc 8 L=true)(hT:ax (L++z::Z)=0)(hov:kD 225 [.ps [x] t,.slice 0 0 (i+1) (n-i) (some (n+(k+1)-(i+1)))] (ab [dB (L++z::Z)]) (.bool false) (ab [dB (L++z::Z)])):kD 163 [.slice 0 0 0 n (some (n+(k+1))),nV i,.ps [x] t] (ab [dB (L++z::Z)]) (.slice 0 0 0 (n+1) (some (n+(k+1)))) (ab [dB (gi i x L++Z)]):=by
  have hq:al (Int.ofNat i) (Int.ofNat n)=false:=Yu (by omega)
  have hl:au (Int.ofNat (n+(k+1))) (Int.ofNat (n+1))=false:=aaf (by omega)
  let q:=ab [aZ 8 false 0 (L++z::Z)];let q1:=ab [aZ 8 false 0 (L.take (i+1)++(L.drop i++Z))];let q2:=AHeap.mk 1000000 (bB q ([0]) Tr.nil);let q3:=aI 0 0 0 (n+1) (some (n+(k+1)));let q4:=aI 0 0 i (n+1-i) (some (n+(k+1)-i));let q5:=(some (nV i));let q6:=aI 0 0 (i+1) (n-i) (some (n+(k+1)-(i+1)));let q7:=(some (nV (i+1)));let q8:=(some (aI 0 0 0 n (some (n+(k+1)))));exact eM Tryz.func163 fun a=>Ko 2 (by exact iq (xs:=L++z::Z) (l:=i) (h:=n) (by kernel_rfl) (by rfl) (by rfl) (by omega) (by omega) (by omega) (by omega) (by omega) (by omega):ba q (dJ (8) q q8 q5 (none) (none))=some (ARes.val (AV.slice 0 0 i (n-i) (some (n+(k+1)-i))) q))<|Kh 11 hq<|Kl 2 28 (g0 n)<|Kh 2 hl<|Kl 3 59 (g0 n)<|Mo (by exact iq (xs:=L++z::Z) (l:=0) (h:=n+1) (by kernel_rfl) (by rfl) (by rfl) (by omega) (by omega) (by omega) (by omega) (by omega) (by omega):ba q (dJ (8) q q8 (none) ((some (nV (n+1)))) (none))=some (ARes.val q3 q))<|Kl 5 65 (g0 i)<|Mo (by exact iq (xs:=L++z::Z) (l:=i+1) (h:=n+1) (by kernel_rfl) (by rfl) (by rfl) (by omega) (by omega) (by omega) (by omega) (by omega) (by omega):ba q (dJ (8) q ((some q3)) q7 (none) (none))=some (ARes.val q6 q))<|Me hov<|Mg 4<|Ma (g0 i)<|Mv (by exact iq (xs:=L++z::Z) (l:=i+1) (h:=n+1) (by kernel_rfl) (by rfl) (by rfl) (by omega) (by omega) (by omega) (by omega) (by omega) (by omega):ba (q2) (dJ (8) (q2) ((some q3)) q7 (none) (none))=some (ARes.val q6 q2))<|Kv 1 (by exact iq (xs:=L++z::Z) (l:=i) (h:=n+1) (by kernel_rfl) (by rfl) (by rfl) (by omega) (by omega) (by omega) (by omega) (by omega) (by omega):ba (q2) (dJ (8) (q2) ((some q3)) q5 (none) (none))=some (ARes.val q4 q2))<|Md rt (gT (tR 8 false 0 1 (oA:ax (L++z::Z)=0))<|gT (tR 8 false 0 1 (oA:ax (L++z::Z)=0)) rt) (by exact LR (zs:=((L++z::Z).drop i).take (n+1-i)) rfl (y7 rfl rfl) (by grind[rg]) (by grind) (by grind[TM]):ec (uG (8) ((AHeap.mk 1 (bB (ab [AObj.row 8 false 0 (L++z::Z)]) ([0,0]) Tr.nil))) ((some (AV.slice 0 0 (i+1) (n-i) (some (n+(k+1)-(i+1)))))) ((some (AV.slice 0 0 i (n+1-i) (some (n+(k+1)-i))))))=some (ARes.val (nV (n-i)) (AHeap.put (AHeap.mk 1 (bB (ab [AObj.row 8 false 0 (L++z::Z)]) ([0,0]) Tr.nil)) 0 (AObj.row 8 false 0 (L.take (i+1)++(L.drop i++Z))))))<|Ko 1 (by exact iq (xs:=L.take (i+1)++(L.drop i++Z)) (l:=i) (h:=n+1) (by kernel_rfl) (by rfl) (by rfl) (by omega) (by omega) (by omega) (by omega) (by omega) (by omega):ba q1 (dJ (8) q1 ((some q3)) q5 (none) (none))=some (ARes.val q4 q1))<|Ko 0 (by exact LR (zs:=[x]) rfl (by rfl) (rf hx) (by grind) (by grind[List.take_of_length_le,Qw]):ec (uG (8) q1 ((some q4)) ((some (AV.ps [x] t))))=some (ARes.val (iV 1) (ab [AObj.row 8 false 0 (gi i x L++Z)])))<|Kf 1 a
theorem QA(L:List AV)(x:AV)(t:Bool)(n i:Nat)(hi:i<n)(hn:L.length=n)(hs:n<2^20)(hx:dc 8 [x]=true)(hf:dc 8 L=true)(hT:ax L=0)(hT2:ax (L.take i++(x::List.replicate (n-i) zU))=0)(hI:ax (gi i x L)=0):kD 163 [.slice 0 0 0 n (some n),nV i,.ps [x] t] (ab [dB L]) (.ls (gi i x L)) (ab [dB L]):=by
  have hq:al (Int.ofNat i) (Int.ofNat n)=false:=Yu (by omega)
  have hl:au (Int.ofNat n) (Int.ofNat (n+1))=true:=aae (by omega)
  have hIl:(gi i x L).length=n+1:=(Ax (by omega)).trans (by omega)
  let q:=ab [aZ 8 false 0 L,aZ 8 true 0 (L.take i++x::List.replicate (n-i) zU)];let q1:=ab [aZ 8 false 0 L,aZ 8 true 0 (L.take i++List.replicate (n+1-i) zU)];let q2:=ab [aZ 8 false 0 L];let q3:=(some (nV i));let q4:=AHeap.mk 1000000 (bB q ([0]) Tr.nil);let q5:=aI 0 0 i (n-i) (some (n-i));let q6:=(some (aI 0 0 0 n (some n)));let q7:=AHeap.mk 2 (bB q ([1,0]) Tr.nil);let q8:=aI 1 0 i (n+1-i) none;let q9:=aI 1 0 0 (n+1) none;let q10:=aI 0 0 0 i (some n);exact eM Tryz.func163 fun a=>Ko 2 (by exact iq (xs:=L) (l:=i) (h:=n) (by kernel_rfl) (by rfl) (by rfl) (by omega) (by omega) (by omega) (by omega) (by omega) (by omega):ba q2 (dJ (8) q2 q6 q3 (none) (none))=some (ARes.val q5 q2))<|Kh 11 hq<|Kl 2 28 (g0 n)<|Kt 2 hl<|Ko 1 (by exact iq (xs:=L) (l:=0) (h:=i) (by kernel_rfl) (by rfl) (by rfl) (by omega) (by omega) (by omega) (by omega) (by omega) (by omega):ba q2 (dJ (8) q2 q6 (none) q3 (none))=some (ARes.val q10 q2))<|Kl 2 37 (g0 n)<|Ko 0 (by(show ba _ (some (AV.int .i64 (IntKind.i64.wrap (Int.ofNat (n+1)-Int.ofNat i))))=_;rw[show(Int.ofNat (n+1)-Int.ofNat i)=Int.ofNat (n+1-i) by grind,xN (by simp_all) (by grind)];rfl):ba (ab [AObj.row 8 false 0 L]) (SP (pE BinOp.sub (Tryz.prog.underlying 3) (cL Tryz.prog 3) (cO Tryz.prog 3) (dP Tryz.prog 10 3 0)) ((some (nV (n+1)))) ((some (nV i))))=some (ARes.val (nV (n+1-i)) (ab [AObj.row 8 false 0 L])))<|Mo (by exact TI rfl (by omega) (by omega) (by kernel_rfl) (aN (m:=2^21) (by omega) (by omega) (by omega)) (aN (m:=2^21) (by omega) (by omega) (by omega)) (by simp_all) (by grind):ec (wN (8) (120) (AV.agg [iV 0,iV 0,iV 0,iV 0,AV.str [],AV.nils,AV.nils,AV.nils]) q2 ((some q10)) ((some (nV (n+1-i)))))=some (ARes.val q9 q1))<|Ko 2 (by exact KU (xs:=L.take i++List.replicate (n+1-i) zU) (l:=i) (h:=n+1) (by kernel_rfl) (by rfl) (by rfl) (by omega) (by grind) (by omega) (by omega):ba q1 (dJ (8) q1 ((some q9)) q3 (none) (none))=some (ARes.val q8 q1))<|Ko 0 (by exact LR (zs:=[x]) rfl (by rfl) (rf hx) (by grind) (by grind[List.take_of_length_le,TB]):ec (uG (8) q1 ((some q8)) ((some (AV.ps [x] t))))=some (ARes.val (iV 1) q))<|Mg 2<|Ma (g0 i)<|Mv (by exact KU (xs:=L.take i++(x::List.replicate (n-i) zU)) (l:=i+1) (h:=n+1) (by kernel_rfl) (by rfl) (by rfl) (by omega) (by grind) (by omega) (by omega):ba ((AHeap.mk 1000000 (bB (ab [AObj.row 8 false 0 L,AObj.row 8 true 0 (L.take i++x::List.replicate (n-i) zU)]) ([1]) Tr.nil))) (dJ (8) ((AHeap.mk 1000000 (bB (ab [AObj.row 8 false 0 L,AObj.row 8 true 0 (L.take i++x::List.replicate (n-i) zU)]) ([1]) Tr.nil))) ((some (AV.slice 1 0 0 (n+1) none))) ((some (nV (i+1)))) (none) (none))=some (ARes.val (AV.slice 1 0 (i+1) (n-i) none) (AHeap.mk 1000000 (bB (ab [AObj.row 8 false 0 L,AObj.row 8 true 0 (L.take i++x::List.replicate (n-i) zU)]) ([1]) Tr.nil))))<|Kv 1 (by exact iq (xs:=L) (l:=i) (h:=n) (by kernel_rfl) (by rfl) (by rfl) (by omega) (by omega) (by omega) (by omega) (by omega) (by omega):ba (q4) (dJ (8) (q4) q6 q3 (none) (none))=some (ARes.val q5 q4))<|Md rt (gT (tR 8 true 0 2 (oA:ax (L.take i++x::List.replicate (n-i) zU)=0))<|gT (tR 8 false 0 2 (oA:ax (L)=0)) rt) (by exact LR (zs:=L.drop i) rfl (y7 rfl (CX (by simp_all))) (rf (rg hf)) (by simp_all) (by grind[List.length_drop,Qz]):ec (uG (8) (q7) ((some (AV.slice 1 0 (i+1) (n-i) none))) ((some q5)))=some (ARes.val (nV (n-i)) (AHeap.put q7 1 (AObj.row 8 true 0 (gi i x L)))))<|Mg 1<|M2 (.fsl 1 [] 6<|gi i x L) (et (tR 8 false 0 1 (oA:ax (L)=0)) ti) (cj (aq 0) (Vi (oA:(gi i x L).length=n+1)) (oA:ax (gi i x L)=0))<|Ml 6 (eS (gi i x L) false (oA:ax (gi i x L)=0))<|Mf a
theorem Gt(x:TUnit)(t:Bool):kP 163 [.nils,iV 0,.ps [eU x] t] (.ls [eU x]):=by
  have hx:dc 8 [eU x]=true:=by kernel_rfl
  have hIl:[eU x].length=1:=rfl
  have hI:ax [eU x]=0:=by kernel_rfl
  let q:=[az [iV x.act,iV x.item,iV x.n,iV x.kind,aK x.label,aW (x.head.map aQ),aW (x.words.map aQ),aW (x.kids.map aV)]];exact bC Tryz.func163<|Ko 18 (by(simp only[co,fu,jM,kU,gV,hx];rfl):ec (co (8) (120) (ab []) ((some (AV.nils))) ((some (AV.ps [AV.agg [iV x.act,iV x.item,iV x.n,iV x.kind,AV.str x.label,AV.ls (x.head.map aQ),AV.ls (x.words.map aQ),AV.ls (x.kids.map aV)]] t))))=some (ARes.val (AV.slice 0 0 0 1 none) (ab [AObj.row 8 true 0 [eU x]])))<|K1 0 (.frz 0 [6]) ti<|Mf (eS q _<|by rfl:Le _ (AV.ps q false))
theorem Gs(x:TUnit)(t:Bool):kP 163 [.ps [] true,iV 0,.ps [eU x] t] (.ls [eU x]):=by
  have hx:dc 8 [eU x]=true:=by kernel_rfl
  have hIl:[eU x].length=1:=rfl
  have hI:ax [eU x]=0:=by kernel_rfl
  let q:=[az [iV x.act,iV x.item,iV x.n,iV x.kind,aK x.label,aW (x.head.map aQ),aW (x.words.map aQ),aW (x.kids.map aV)]];exact bC Tryz.func163<|Ko 18 (by(simp only[co,fu,jM,kU,gV,hx];rfl):ec (co (8) (120) (ab []) ((some (AV.ps [] true))) ((some (AV.ps [AV.agg [iV x.act,iV x.item,iV x.n,iV x.kind,AV.str x.label,AV.ls (x.head.map aQ),AV.ls (x.words.map aQ),AV.ls (x.kids.map aV)]] t))))=some (ARes.val (AV.slice 0 0 0 1 none) (ab [AObj.row 8 true 0 [eU x]])))<|K1 0 (.frz 0 [6]) ti<|Mf (eS q _<|by rfl:Le _ (AV.ps q false))
noncomputable def KQ:TypeInfo:=(Tryz.prog.info? 38).getD default
theorem O8:Tryz.prog.info? 38=some KQ:=by kernel_rfl
/-- A unit of zero values says no more than the zero value. -/
theorem X3:Le (aV be) zU:=aT (.cons (Le.refl _) (.cons (Le.refl _) (.cons (Le.refl _) (.cons (Le.refl _) (.cons (Le.refl _) (.cons Le.nils (.cons Le.nils (.cons Le.nils .nil)))))))) rfl
theorem Iy:KQ.size=8:=by kernel_rfl
theorem Fy:KQ.bytes=120:=by kernel_rfl
theorem Y3(l:List TUnit):dc 8 (l.map aV)=true:=fh (fun u=>by cases u;rfl) l
/-- A copy of units: a row of its own, which holds zero values behind them. -/
theorem ED(xs:List TUnit)(hne:xs≠[])(hl:xs.length≤2^20)(a b c:AObj):kC 224 [.ls (xs.map aV)] (ab [a,b,c])
    (fun v h=>∃k:Nat,True∧v=.slice 3 0 0 xs.length (some (xs.length+k))∧h=ab [a,b,c,dB ((xs++List.replicate k be).map aV)]):=by
  simp only[pL,List.map_replicate]
  have hn:xs.map aV≠[]:=fun h=>hne (List.map_eq_nil_iff.1 h)
  have hf:=Y3 xs
  have hsm:small (xs.map aV).length 120=true:=by grind[aN]
  have hlen:xs.length=(xs.map aV).length:=(b9 ..).symm
  rw[hlen]
  generalize xs.map aV=L at hn hf hsm
  refine aL.enter 2 (fn:=Tryz.f224) Tryz.func224 (by kernel_rfl) rfl ⟨by kernel_rfl,by kernel_rfl⟩ ?_
  refine aB.seq (aB.mono (Ec oQ fV (ev 40) (s':=⟨dT 8 [(0,.ls L),(2,.nils)],ab [a,b,c]⟩) (.go 0 .fin) (by kernel_rfl)) ?_)
  rintro _ _ ⟨rfl,rfl⟩
  refine aB.seq (aB.seq (aB.mono (yK fV (ev 40) (Ψ:=fun s=>s=⟨dT 8 [(0,.ls L),(2,.nils),(3,.ps L false),(4,.bool false)],ab [a,b,c]⟩) (.go 0 (.nz 3 .abs (.go 0 .fin)))
    (W:=(L=[]→False)∧(⟨dT 8 [(0,.ls L),(2,.nils),(3,.ps L false),(4,.bool false)],ab [a,b,c]⟩:St)=⟨dT 8 [(0,.ls L),(2,.nils),(3,.ps L false),(4,.bool false)],ab [a,b,c]⟩) ⟨hn,rfl⟩ (by kernel_rfl)) ?_))
  rintro _ _ ⟨rfl,rfl⟩
  refine aB.cond (t:=false) (by kernel_rfl) (fun h=>by grind) fun _=>aB.skip ?_
  refine aB.seq (aB.region ?_)
  show cb _ _ _ _ [_,_,_,_] _ _
  refine cb.one (s':=⟨dT 8 [(0,.ls L),(2,.nils),(3,.ps L false),(4,.bool false),(5,.ps [] true)],ab [a,b,c]⟩) (ev 40) (by kernel_rfl) ?_
  refine cb.one (s':=⟨dT 8 [(0,.ls L),(2,.nils),(3,.ps L false),(4,.bool false),(5,.ps [] true),(6,.ls L)],ab [a,b,c]⟩) (ev 40) (by kernel_rfl) ?_
  refine rE (I:=fun _=>True) (r:=fun k:Nat=>.slice 3 0 0 L.length (some (L.length+k))) (H:=fun k=>ab [a,b,c,.row 8 false 0 (L++List.replicate k (aV be))]) (by kernel_rfl)
    (fun pl M a w g1 g2 g3=>u9 (z:=aV be) (z0:=zU) (xs:=L) (t:=36) (tx:=36) (e:=38) (i:=KQ) Iy Fy (by kernel_rfl) ⟨38,by kernel_rfl⟩ O8 (by kernel_rfl) X3 (by kernel_rfl) (by kernel_rfl) hn hf (by kernel_rfl) hsm (by omega) pl M a w g1 g2 g3) fun k _=>?_
  refine⟨dT 8 [(0,.ls L),(2,.nils),(3,.ps L false),(4,.bool false),(5,.ps [] true),(6,.ls L),(7,.slice 3 0 0 L.length (some (L.length+k)))],by kernel_rfl,?_⟩
  refine cb.one (s':=⟨dT 8 [(0,.ls L),(2,.slice 3 0 0 L.length (some (L.length+k))),(3,.ps L false),(4,.bool false),(5,.ps [] true),(6,.ls L),(7,.slice 3 0 0 L.length (some (L.length+k)))],ab [a,b,c,.row 8 false 0 (L++List.replicate k (aV be))]⟩) (ev 40) (by kernel_rfl) (cb.nil (aB.ret ⟨fun id h=>(by grind),.slice 3 0 0 L.length (some (L.length+k)),by kernel_rfl,k,trivial,by kernel_rfl,by kernel_rfl⟩))
/-- The unit that a closure changes: its kids are 'K'. -/
noncomputable abbrev dA(u:TUnit)(K:AV):AObj:=.row 8 false 0 [.agg [iV u.act,iV u.item,iV u.n,iV u.kind,.str u.label,.ls (u.head.map aQ),.ls (u.words.map aQ),K]]
theorem X6(u:TUnit)(n c i:Nat)(R R':List AV)(hT:ax R=0)(hT2:ax R'=0)(hi:i<n)(hs:n≤2^20)(hD:kD 228 [.slice 1 0 0 n (some c),nV i,nV (i+1)] (ab [dA u (.slice 1 0 0 n (some c)),dB R]) (.slice 1 0 0 (n-1) (some c)) (ab [dA u (.slice 1 0 0 n (some c)),dB R'])):
    kD 227 [.ptr 0 0 0 0,.pptr [nV i] 0 0] (ab [dA u (.slice 1 0 0 n (some c)),dB R]) (.tuple []) (ab [dA u (.slice 1 0 0 (n-1) (some c)),dB R']):=by
  exact eM Tryz.func227 fun a=>Mg 6<|Ma (g0 i)<|M3 (.efx false (aI 1 0 0 (n-1)<|some c)<|ab [aZ 8 false 0 [az [iV u.act,iV u.item,iV u.n,iV u.kind,aK u.label,aW<|u.head.map aQ,aW<|u.words.map aQ,aI 1 0 0 n<|some c]],aZ 8 false 0 R']) (cj (tR 8 false 0 2 (oA:ax (R)=0)) rt ti) ti hD<|Kf 2 a
theorem W0(u x:TUnit)(n c i:Nat)(R R':List AV)(hT:ax R=0)(hT2:ax R'=0)(hD:kD 163 [.slice 1 0 0 n (some c),nV i,.ps [eU x] true] (ab [dA u (.slice 1 0 0 n (some c)),dB R]) (.slice 1 0 0 (n+1) (some c)) (ab [dA u (.slice 1 0 0 n (some c)),dB R'])):
    kD 162 [.ptr 0 0 0 0,.pptr [nV i] 0 0,.pptr [eU x] 0 0] (ab [dA u (.slice 1 0 0 n (some c)),dB R]) (.tuple []) (ab [dA u (.slice 1 0 0 (n+1) (some c)),dB R']):=by
  exact eM Tryz.func162 fun a=>Mg 7<|M3 (.efx false (aI 1 0 0 (n+1)<|some c)<|ab [aZ 8 false 0 [az [iV u.act,iV u.item,iV u.n,iV u.kind,aK u.label,aW<|u.head.map aQ,aW<|u.words.map aQ,aI 1 0 0 n<|some c]],aZ 8 false 0 R']) (cj (tR 8 false 0 2 (oA:ax (R)=0)) rt ti) ti hD<|Kf 2 a
theorem WT(u x:TUnit)(n c i:Nat)(R Y:List AV)(hT:ax R=0)(hD:kD 163 [.slice 1 0 0 n (some c),nV i,.ps [eU x] true] (ab [dA u (.slice 1 0 0 n (some c)),dB R]) (.ls Y) (ab [dA u (.slice 1 0 0 n (some c)),dB R])):
    kD 162 [.ptr 0 0 0 0,.pptr [nV i] 0 0,.pptr [eU x] 0 0] (ab [dA u (.slice 1 0 0 n (some c)),dB R]) (.tuple []) (ab [dA u (.ls Y),dB R]):=by
  let q:=[az [iV u.act,iV u.item,iV u.n,iV u.kind,aK u.label,aW (u.head.map aQ),aW (u.words.map aQ),aI 1 0 0 n (some c)]];exact eM Tryz.func162 fun a=>Mg 7<|M3 (.efx true (aW Y)<|ab [aZ 8 false 0 q,aZ 8 false 0 R]) (cj (tR 8 false 0 2 (oA:ax (R)=0)) rt ti) (cj (aq<|some<|aZ 8 false 0 R) (aq<|some<|aZ 8 false 0 q) ti) hD<|Kf 2 a
theorem WS(u x:TUnit)(Y:List AV)(hD:kP 163 [.nils,iV 0,.ps [eU x] true] (.ls Y)):
    kD 162 [.ptr 0 0 0 0,.pptr [iV 0] 0 0,.pptr [eU x] 0 0] (ab [dA u .nils]) (.tuple []) (ab [dA u (.ls Y)]):=by
  exact eM Tryz.func162 fun a=>Kp 7 hD<|Kf 2 a
theorem WR(u x:TUnit)(Y:List AV)(hD:kP 163 [(.ps [] true),iV 0,.ps [eU x] true] (.ls Y)):
    kD 162 [.ptr 0 0 0 0,.pptr [iV 0] 0 0,.pptr [eU x] 0 0] (ab [dA u (.ps [] true)]) (.tuple []) (ab [dA u (.ls Y)]):=by
  exact eM Tryz.func162 fun a=>Kp 7 hD<|Kf 2 a
theorem Wr(u x:TUnit)(n c i:Nat)(R R':List AV)(hT:ax R=0)(hT2:ax R'=0)(hD:kD 163 [.slice 1 0 0 n (some c),nV i,.ps [eU x] true] (ab [dA u (.slice 1 0 0 n (some c)),dB R]) (.slice 1 0 0 (n+1) (some c)) (ab [dA u (.slice 1 0 0 n (some c)),dB R'])):
    kD 173 [.ptr 0 0 0 0,.pptr [nV i] 0 0,.pptr [eU x] 0 0] (ab [dA u (.slice 1 0 0 n (some c)),dB R]) (.tuple []) (ab [dA u (.slice 1 0 0 (n+1) (some c)),dB R']):=by
  exact eM Tryz.func173 fun a=>Mg 7<|M3 (.efx false (aI 1 0 0 (n+1)<|some c)<|ab [aZ 8 false 0 [az [iV u.act,iV u.item,iV u.n,iV u.kind,aK u.label,aW<|u.head.map aQ,aW<|u.words.map aQ,aI 1 0 0 n<|some c]],aZ 8 false 0 R']) (cj (tR 8 false 0 2 (oA:ax (R)=0)) rt ti) ti hD<|Kf 2 a
theorem Wp(u x:TUnit)(n c i:Nat)(R Y:List AV)(hT:ax R=0)(hD:kD 163 [.slice 1 0 0 n (some c),nV i,.ps [eU x] true] (ab [dA u (.slice 1 0 0 n (some c)),dB R]) (.ls Y) (ab [dA u (.slice 1 0 0 n (some c)),dB R])):
    kD 173 [.ptr 0 0 0 0,.pptr [nV i] 0 0,.pptr [eU x] 0 0] (ab [dA u (.slice 1 0 0 n (some c)),dB R]) (.tuple []) (ab [dA u (.ls Y),dB R]):=by
  let q:=[az [iV u.act,iV u.item,iV u.n,iV u.kind,aK u.label,aW (u.head.map aQ),aW (u.words.map aQ),aI 1 0 0 n (some c)]];exact eM Tryz.func173 fun a=>Mg 7<|M3 (.efx true (aW Y)<|ab [aZ 8 false 0 q,aZ 8 false 0 R]) (cj (tR 8 false 0 2 (oA:ax (R)=0)) rt ti) (cj (aq<|some<|aZ 8 false 0 R) (aq<|some<|aZ 8 false 0 q) ti) hD<|Kf 2 a
theorem Wo(u x:TUnit)(Y:List AV)(hD:kP 163 [.nils,iV 0,.ps [eU x] true] (.ls Y)):
    kD 173 [.ptr 0 0 0 0,.pptr [iV 0] 0 0,.pptr [eU x] 0 0] (ab [dA u .nils]) (.tuple []) (ab [dA u (.ls Y)]):=by
  exact eM Tryz.func173 fun a=>Kp 7 hD<|Kf 2 a
theorem Wn(u x:TUnit)(Y:List AV)(hD:kP 163 [(.ps [] true),iV 0,.ps [eU x] true] (.ls Y)):
    kD 173 [.ptr 0 0 0 0,.pptr [iV 0] 0 0,.pptr [eU x] 0 0] (ab [dA u (.ps [] true)]) (.tuple []) (ab [dA u (.ls Y)]):=by
  exact eM Tryz.func173 fun a=>Kp 7 hD<|Kf 2 a
theorem X4(u:TUnit)(l:List PWord):kD 166 [.ptr 0 0 0 0,.pptr [.ls (l.map aQ)] 0 0] (ab [dA u (.ls (u.kids.map aV))]) (.tuple []) (ab [dA (l8 l u) (.ls (u.kids.map aV))]):=by
  exact eM Tryz.func166 fun a=>Kf 4 a
theorem Ye(u:TUnit)(l:List PWord):kD 168 [.ptr 0 0 0 0,.pptr [.ls (l.map aQ)] 0 0] (ab [dA u (.ls (u.kids.map aV))]) (.tuple []) (ab [dA (l8 l u) (.ls (u.kids.map aV))]):=by
  exact eM Tryz.func168 fun a=>Kf 4 a
theorem YS(u:TUnit)(l:List PWord):kD 170 [.ptr 0 0 0 0,.pptr [.ls (l.map aQ)] 0 0] (ab [dA u (.ls (u.kids.map aV))]) (.tuple []) (ab [dA (Aw l u) (.ls (u.kids.map aV))]):=by
  exact eM Tryz.func170 fun a=>Kf 4 a
theorem Yc(u:TUnit)(d:PDeed):kD 172 [.ptr 0 0 0 0,.pptr [aU d] 0 0] (ab [dA u (.ls (u.kids.map aV))]) (.tuple []) (ab [dA (o9 d.it.label u) (.ls (u.kids.map aV))]):=by
  exact eM Tryz.func172 fun a=>Kf 6 a
noncomputable abbrev vu(p:PId):AObj:=.row 3 false 0 [aY p]
noncomputable abbrev zO:AObj:=.row 8 false 0 [zU]
theorem Hu:kP 224 [.nils] .nils:=by
  exact wk Tryz.func224 (.go 4 .fin)<|bd af
theorem Ht:kP 224 [.ps [] false] (.ps [] true):=by
  exact wk Tryz.func224 (.go 7 .fin)<|bd<|jW [] true
theorem RS(w:TUnit)(r:List TUnit)(hl:r.length<2^20):kP 224 [.ls ((w::r).map aV)] (.ls ((w::r).map aV)):=by
  let q:=List.map aV (w::r);exact bC Tryz.func224<|Mg 1<|Mz 3 (fun(a:((w::r).map aV:List AV)=[])=>Mw .abs<|km _ _ a)<|Mg 3<|M2 .apl (et (sA:List.map aV (w::r)≠[])<|fh (sz:=8) (f:=aV) (fun _=>by(rw[aR];rfl))<|w::r) (by(refine aN (m:=2^21) ?_ ?_ ?_<;>first|omega|grind):small ((w::r).map aV).length 120=true)<|Mg 0<|M2 (.fsl 0 [] 2 q) ti (cj (aq 0) (tA aV (w::r) q.length (sA:(w::r).length=((w::r).map aV).length))<|aX iZ<|w::r)<|Ml 2 (eS q false<|aX iZ<|w::r)<|Mf<|bd<|aW q
theorem Dw(l:List TUnit)(hl:l.length≤2^20):kP 224 [.ls (l.map aV)] (.ls (l.map aV)):=by
  cases l with
  |nil=>exact aA.ls0 (Hu.less Le.nils) (Ht.lessB (u:=.ls []) (by kernel_rfl))
  |cons w r=>grind[RS]
/-- The unit is found; its kids stay what they are. -/
theorem yk(g:Nat)(bs:List AV)(p:PId)(u u2:TUnit)(hA:ax [eU u,aY p,.func (.func g) [] bs]=0)(hp:(al u.act p.a&&(al u.item p.i&&al u.n p.n))=true)(hl:u.kids.length≤2^20)(hd:kD g (.ptr 0 0 0 0::bs) (ab [dA u (.ls (u.kids.map aV)),vu p,zO]) (.tuple []) (ab [dA u2 (.ls (u2.kids.map aV)),vu p,zO])):kP 161 [eU u,aY p,.func (.func g) [] bs] (eU u2):=by
  have hc:=Dw u.kids hl
  let q:=[iV p.a,iV p.i,iV p.n];exact bC (ht:=oA) Tryz.func161<|Kv 5 (lq ((Tryz.prog).underlying 34) u.act u.item u.n p.a p.i p.n<|ab [aZ 8 false 0 [az [iV u.act,iV u.item,iV u.n,iV u.kind,aK u.label,aW<|u.head.map aQ,aW<|u.words.map aQ,aW<|u.kids.map aV]],aZ 3 false 0 [az q],aZ 8 false 0 [az [iV 0,iV 0,iV 0,iV 0,aK [],af,af,af]]])<|Mt hp<|Kp 1 hc<|Ke 2 hd<|Kf 1<|bd<|az [iV u2.act,iV u2.item,iV u2.n,iV u2.kind,aK u2.label,aW<|u2.head.map aQ,aW<|u2.words.map aQ,aW<|u2.kids.map aV]
/-- The unit is found; it has kids; in its own row something is done. -/
theorem Uc(g:Nat)(bs:List AV)(p:PId)(u u2:TUnit)(n2:Nat)(Z:Nat→List AV)(hA:ax [eU u,aY p,.func (.func g) [] bs]=0)(hp:(al u.act p.a&&(al u.item p.i&&al u.n p.n))=true)(hl:u.kids.length≤2^20)(hne:u.kids≠[])(hn2:u2.kids.length=n2)(hd:∀k,kD g (.ptr 0 0 0 0::bs) (ab [dA u (.slice 3 0 0 u.kids.length (some (u.kids.length+k))),vu p,zO,dB ((u.kids++List.replicate k be).map aV)]) (.tuple []) (ab [dA u2 (.slice 3 0 0 n2 (some (u.kids.length+k))),vu p,zO,dB (u2.kids.map aV++Z k)])):kP 161 [eU u,aY p,.func (.func g) [] bs] (eU u2):=by
  let q:=[az [iV u.act,iV u.item,iV u.n,iV u.kind,aK u.label,aW (u.head.map aQ),aW (u.words.map aQ),aW (u.kids.map aV)]];let q1:=[iV p.a,iV p.i,iV p.n];let q2:=[az [iV 0,iV 0,iV 0,iV 0,aK [],af,af,af]];let q3:=List.map aV u2.kids;exact bC (ht:=oA) Tryz.func161<|Kv 5 (lq ((Tryz.prog).underlying 34) u.act u.item u.n p.a p.i p.n<|ab [aZ 8 false 0 q,aZ 3 false 0 [az q1],aZ 8 false 0 q2])<|Mt hp<|Mg 1<|Mq (ED u.kids hne hl (aZ 8 false 0 q) (aZ 3 false 0 [az q1])<|aZ 8 false 0 q2) fun a _=>Ke 2 (hd a)<|M2 (.fza 0 7 3 [3,6] q3) (jQ rt rt rt ti) (cj (aq 0) (Vl (xs:=List.map aV u2.kids) (ys:=Z a) (n:=n2) sA)<|aX iZ u2.kids)<|Kf 1<|bd<|az [iV u2.act,iV u2.item,iV u2.n,iV u2.kind,aK u2.label,aW<|u2.head.map aQ,aW<|u2.words.map aQ,aW q3]
theorem Ui{l m:List TUnit}{i:Nat}(h:i<l.length):gD (l++m) i=gD l i:=by
  grind[gD]
theorem tg{l m:List TUnit}{i n:Nat}{x:TUnit}(h:l.length=n)(hi:i<n):((l++m).set i x).take n=l.set i x:=by
  simp_all
theorem Si{l m:List TUnit}{n:Nat}(h:l.length=n):(l++m).take n=l:=by simp_all
theorem LH{l:List TUnit}{i:Nat}(h:i<l.length):l.drop i=gD l i::l.drop (i+1):=by
  grind[List.drop_eq_getElem_cons,gD]
theorem X9{p:PId}{f:TUnit→TUnit}{l:List TUnit}{i:Nat}(h:jX p f l i (l.drop i))(hi:l.length≤i):eb p f l=l:=by
  grind[List.drop_eq_nil_of_le,jX.done]
theorem X7{p:PId}{f:TUnit→TUnit}{l:List TUnit}{i:Nat}(h:jX p f l i (l.drop i))(hi:i<l.length)(hw:cV p (gD l i)=false):jX p f l (i+1) (l.drop (i+1)):=by
  grind[LH,jX.skip]
theorem X8{p:PId}{f:TUnit→TUnit}{l:List TUnit}{i:Nat}(h:jX p f l i (l.drop i))(hi:i<l.length)(hw:cV p (gD l i)=true):eb p f l=l.set i (dZ p f (gD l i)):=by
  grind[LH,jX.hit]
/-- The unit is another one without kids. -/
theorem YE(g:Nat)(bs:List AV)(p:PId)(u:TUnit)(hA:ax [eU u,aY p,.func (.func g) [] bs]=0)(hA2:(AV.func (.func g) [] bs).top=0)(hp:(al u.act p.a&&(al u.item p.i&&al u.n p.n))=false)(h0:u.kids.length=0)(hl0:au 0 (Int.ofNat u.kids.length)=false):kP 161 [eU u,aY p,.func (.func g) [] bs] (eU u):=by
  have hc:=Dw u.kids (by omega)
  let q:=[aZ 8 false 0 [az [iV u.act,iV u.item,iV u.n,iV u.kind,aK u.label,aW (u.head.map aQ),aW (u.words.map aQ),aW (u.kids.map aV)]],aZ 3 false 0 [az [iV p.a,iV p.i,iV p.n]],aZ 8 false 0 [az [iV 0,iV 0,iV 0,iV 0,aK [],af,af,af]]];let q1:=[bq (bU g) [] bs,bY 0 0 0 0,bY 1 0 0 0,bY 2 0 0 0,aW (u.kids.map aV),aW (u.kids.map aV),nV u.kids.length,iV 0];exact bC (ht:=oA) Tryz.func161<|Kv 5 (lq ((Tryz.prog).underlying 34) u.act u.item u.n p.a p.i p.n<|ab q)<|Mh hp<|Kp 1 hc<|Kl 2 27 (ln aV u.kids)<|Mg 0<|Zm [2,3,4,6,7,26,27,28] (q1,q) True 0 ti fun _ _=>Kh 0 hl0<|Kf 4<|bd<|az [iV u.act,iV u.item,iV u.n,iV u.kind,aK u.label,aW<|u.head.map aQ,aW<|u.words.map aQ,aW<|u.kids.map aV]
/-- The unit is another: what is done below. -/
theorem YD(g:Nat)(bs:List AV)(p:PId)(f:TUnit→TUnit)(u:TUnit)(hA:ax [eU u,aY p,.func (.func g) [] bs]=0)(hA2:(AV.func (.func g) [] bs).top=0)(hp:(al u.act p.a&&(al u.item p.i&&al u.n p.n))=false)(hne:u.kids≠[])(hn:u.kids.length≤2^20)
    (hf:∀k,k∈u.kids→kP 62 [eU k,aY p] (.tuple [eU (ej p k),.bool (cV p k)]))
    (ih:∀k,k∈u.kids→kP 161 [eU k,aY p,.func (.func g) [] bs] (eU (dZ p f k))):kP 161 [eU u,aY p,.func (.func g) [] bs] (eU (jl u (eb p f u.kids))):=by
  have rr0:∀b',(h:(List.map aV (jl u (eb p f u.kids)).kids)=b':=by first|rfl|(rw[X8 hx0.2 (by(first|omega|(simp only[oN]at *;omega))) (by rw[←q0 (by(first|omega|(simp only[oN]at *;omega)))];assumption),q0 (by(first|omega|(simp only[oN]at *;omega)))];exact congrArg _ (tg rfl (by(first|omega|(simp only[oN]at *;omega)))).symm)|(rw[X9 hx0.2 (by(first|omega|(simp only[oN]at *;omega)))];exact congrArg _ (Si rfl).symm))→(List.map aV (jl u (eb p f u.kids)).kids)=b':=(fun _ h=>h);exact bC (ht:=oA) Tryz.func161<|Kv 5 (lq ((Tryz.prog).underlying 34) u.act u.item u.n p.a p.i p.n<|ab [aZ 8 false 0 [az [iV u.act,iV u.item,iV u.n,iV u.kind,aK u.label,aW<|u.head.map aQ,aW<|u.words.map aQ,aW<|u.kids.map aV]],aZ 3 false 0 [az [iV p.a,iV p.i,iV p.n]],aZ 8 false 0 [az [iV 0,iV 0,iV 0,iV 0,aK [],af,af,af]]])<|Mh hp<|Mg 1<|Mq (ED u.kids hne hn (aZ 8 false 0 [az [iV u.act,iV u.item,iV u.n,iV u.kind,aK u.label,aW<|u.head.map aQ,aW<|u.words.map aQ,aW<|u.kids.map aV]]) (aZ 3 false 0 [az [iV p.a,iV p.i,iV p.n]])<|aZ 8 false 0 [az [iV 0,iV 0,iV 0,iV 0,aK [],af,af,af]]) fun a _=>Mg 3<|MO1 (0:Nat) [2,3,4,6,7,26,27,28] (fun b=>([bq (bU g) [] bs,bY 0 0 0 0,bY 1 0 0 0,bY 2 0 0 0,aI 3 0 0 u.kids.length<|some<|u.kids.length+a,aI 3 0 0 u.kids.length<|some<|u.kids.length+a,nV u.kids.length,nV b],[aZ 8 false 0 [az [iV u.act,iV u.item,iV u.n,iV u.kind,aK u.label,aW<|u.head.map aQ,aW<|u.words.map aQ,aW<|u.kids.map aV]],aZ 3 false 0 [az [iV p.a,iV p.i,iV p.n]],aZ 8 false 0 [az [iV 0,iV 0,iV 0,iV 0,aK [],af,af,af]],aZ 8 false 0<|(u.kids++List.replicate a be).map aV])) (fun a=>a≤u.kids.length∧jX p f u.kids a (u.kids.drop a)) (fun a=>u.kids.length-a) (by simp_all[jX.start]) fun b hx0 c=>have hx0:b≤u.kids.length∧jX p f u.kids b (u.kids.drop b):=hx0;have q0:b<u.kids.length→gD (u.kids++List.replicate a be) b=gD u.kids b:=fun h=>Ui h;Ka 0 (Int.ofNat b) (Int.ofNat u.kids.length) (fun _ _=>K1 0 .rix (et (aq 0) (sA:b<u.kids.length))<|Mr (et (aq 0)<|rz aV (g:=Go.Ev.eU) aR (gR:b<(u.kids++List.replicate a be).length))<|Kp 4 (hf (gD (u.kids++List.replicate a be) b)<|by grind[fI])<|Kb 6 (cV p<|gD (u.kids++List.replicate a be) b) (fun _=>Kp 4 (ih (gD (u.kids++List.replicate a be) b)<|by grind[fI])<|M1 .rix (et (aq 0) (sA:b<u.kids.length))<|M1 (.rst (az [iV (gD (u.kids++List.replicate a be) b).act,iV (gD (u.kids++List.replicate a be) b).item,iV (gD (u.kids++List.replicate a be) b).n,iV (gD (u.kids++List.replicate a be) b).kind,aK (gD (u.kids++List.replicate a be) b).label,aW<|List.map aQ (gD (u.kids++List.replicate a be) b).head,aW<|List.map aQ (gD (u.kids++List.replicate a be) b).words,aW<|List.map aV (gD (u.kids++List.replicate a be) b).kids])<|((u.kids++List.replicate a be).set b<|dZ p f<|gD (u.kids++List.replicate a be) b).map aV) (cj (aq 0) (rz aV (g:=Go.Ev.eU) aR (gR:b<(u.kids++List.replicate a be).length))<|DC (f:=aV) (g:=Go.Ev.eU) aR (l:=u.kids++List.replicate a be) (i:=b) (w:=dZ p f<|gD (u.kids++List.replicate a be) b))<|Mg 0<|M2 (.fsl 3 [3,6] 48<|(((u.kids++List.replicate a be).set b<|dZ p f<|gD (u.kids++List.replicate a be) b).take u.kids.length).map aV) (jQ rt rt rt ti) (cj (aq 0) (wA (f:=aV) (l:=(u.kids++List.replicate a be).set b<|dZ p f<|gD (u.kids++List.replicate a be) b) (n:=u.kids.length))<|aX iZ<|((u.kids++List.replicate a be).set b<|dZ p f<|gD (u.kids++List.replicate a be) b).take u.kids.length)<|Ml 48 (eS ((((u.kids++List.replicate a be).set b<|dZ p f<|gD (u.kids++List.replicate a be) b).take u.kids.length).map aV) (n8 (some<|u.kids.length+a)<|some u.kids.length)<|aX iZ<|((u.kids++List.replicate a be).set b<|dZ p f<|gD (u.kids++List.replicate a be) b).take u.kids.length)<|Kf 3 (aT (.cons (bd _)<|.cons (bd _)<|.cons (bd _)<|.cons (bd _)<|.cons (bd _)<|.cons (bd _)<|.cons (bd _)<|.cons (b6<|rr0<|(((u.kids++List.replicate a be).set b<|dZ p f<|gD (u.kids++List.replicate a be) b).take u.kids.length).map aV) .nil)<|by kernel_rfl:Le _ (AV.agg [iV u.act,iV u.item,iV u.n,iV u.kind,AV.str u.label,AV.ls (u.head.map aQ),AV.ls (u.words.map aQ),AV.ls ((((u.kids++List.replicate a be).set b (dZ p f (gD (u.kids++List.replicate a be) b))).take u.kids.length).map aV)]))) fun _=>Kl 0 47 (g0 b)<|Mg 0<|M2 (.frl 4 [3,4,6,7,26,27,28] [2]) (xC (PK (sz:=8) (op:=false) (ep:=0) (n:=4)<|aX iZ<|u.kids++List.replicate a be) rt rt rt ti) (et (oA:(AV.func (Fn.func g) [] bs).top≤4) ti)<|Mf<|c (b+1) (by grind[X7]) gR) fun _ _=>Mg 0<|M2 (.fsl 3 [3,6] 48<|((u.kids++List.replicate a be).take u.kids.length).map aV) (jQ rt rt rt ti) (cj (aq 0) (wA (f:=aV) (l:=u.kids++List.replicate a be) (n:=u.kids.length))<|aX iZ<|(u.kids++List.replicate a be).take u.kids.length)<|Ml 48 (eS (((u.kids++List.replicate a be).take u.kids.length).map aV) (n8 (some<|u.kids.length+a)<|some u.kids.length)<|aX iZ<|(u.kids++List.replicate a be).take u.kids.length)<|Kf 3 (aT (.cons (bd _)<|.cons (bd _)<|.cons (bd _)<|.cons (bd _)<|.cons (bd _)<|.cons (bd _)<|.cons (bd _)<|.cons (b6<|rr0<|((u.kids++List.replicate a be).take u.kids.length).map aV) .nil)<|by kernel_rfl:Le _ (AV.agg [iV u.act,iV u.item,iV u.n,iV u.kind,AV.str u.label,AV.ls (u.head.map aQ),AV.ls (u.words.map aQ),AV.ls (((u.kids++List.replicate a be).take u.kids.length).map aV)]))
theorem iW{g:Nat}{bs:List AV}{p:PId}(hb:ax bs=0)(x:TUnit):ax [eU x,aY p,.func (.func g) [] bs]=0:=by
  have h1:(eU x).top=0:=by rw[←aR];exact iZ x
  have h2:(AV.func (.func g) [] bs).top=0:=by simp only[AV.top,ax,hb];rfl
  exact jP.2 fun y hy=>by
    simp only[fw,List.mem_nil_iff,or_false]at hy
    rcases hy with rfl|rfl|rfl
    · omega
    · exact Ji p
    omega
/-- with: the first unit of the number is changed, wherever it stands. -/
theorem oh(g:Nat)(bs:List AV)(p:PId)(f:TUnit→TUnit)(hb:ax bs=0):∀(u:TUnit),nU u≤2^19→(∀x,x∈bp u→x.head.length<2^30∧x.words.length<2^30)→
    (∀v,v∈bp u→fG p v=true→kP 161 [eU v,aY p,.func (.func g) [] bs] (eU (f v)))→kP 161 [eU u,aY p,.func (.func g) [] bs] (eU (dZ p f u)):=by
  refine TUnit.ind fun u ih hn ht hit=>?_
  have hA:=iW (g:=g) (bs:=bs) (p:=p) hb
  cases hi:fG p u with
  |true=>grind[qS,dK]
  | false=>
    have hkl:=bf u
    rw[ko hi]
    by_cases h0:u.kids=[]
    · have e:jl u (eb p f u.kids)=u:=by rw[h0,sy];cases u;simp only[TUnit.kids]at h0;subst h0;rfl
      rw[e]
      exact YE g bs p u (hA u) (by simp only[AV.top,ax,hb];rfl) hi (by simp_all) (by rw[h0];rfl)
    · exact YD g bs p f u (hA u) (by simp only[AV.top,ax,hb];rfl) hi h0 (by omega) (fun k hk=>Rz p k (by have:=iz hk;omega) fun x hx=>ht x (bA hk hx))
        fun k hk=>ih k hk (by have:=iz hk;omega) (fun x hx=>ht x (bA hk hx)) fun v hv=>hit v (bA hk hv)
theorem Bj{bs:List AV}(rs:List Nat)(h0:fH rs 0=0)(hb:ax bs=0):lE (fH rs) (.ptr 0 0 0 0::bs)=.ptr 0 0 0 0::bs:=by
  grind[lE,Ev.ren,eN]
theorem AG{g:Nat}{bs:List AV}{u u2:TUnit}{n n2 c:Nat}{X X2:List AV}{A B:AObj}(hb:ax bs=0)(hX:ax X=0)(hX2:ax X2=0)(h:kD g (.ptr 0 0 0 0::bs) (ab [dA u (.slice 1 0 0 n (some c)),dB X]) (.tuple []) (ab [dA u2 (.slice 1 0 0 n2 (some c)),dB X2])):
    kD g (.ptr 0 0 0 0::bs) (ab [dA u (.slice 3 0 0 n (some c)),A,B,dB X]) (.tuple []) (ab [dA u2 (.slice 3 0 0 n2 (some c)),A,B,dB X2]):=
  pa fV [0,3] h (Bj _ rfl hb) rfl rfl ⟨⟨rfl,vq (by kernel_rfl)⟩,⟨rfl,by show ax X≤2;omega⟩,trivial⟩ ⟨⟨rfl,vq (by kernel_rfl)⟩,⟨rfl,by show ax X2≤2;omega⟩,trivial⟩
    (by show Nat.mx _ (ax bs)≤2;rw[hb];exact vq (by kernel_rfl)) (bH _) ⟨by kernel_rfl,by rw[vn hX];kernel_rfl,trivial⟩ ⟨by kernel_rfl,by kernel_rfl,trivial⟩
    (by show _=AHeap.put (AHeap.put _ _ _) _ (j5 _ (.row 8 false 0 X2));rw[vn hX2];kernel_rfl)
theorem Dq{g:Nat}{bs:List AV}{u u2:TUnit}{n c:Nat}{X Y:List AV}{A B:AObj}(hb:ax bs=0)(hX:ax X=0)(h:kD g (.ptr 0 0 0 0::bs) (ab [dA u (.slice 1 0 0 n (some c)),dB X]) (.tuple []) (ab [dA u2 (.ls Y),dB X])):
    kD g (.ptr 0 0 0 0::bs) (ab [dA u (.slice 3 0 0 n (some c)),A,B,dB X]) (.tuple []) (ab [dA u2 (.ls Y),A,B,dB X]):=
  pa fV [0,3] h (Bj _ rfl hb) rfl rfl ⟨⟨rfl,vq (by kernel_rfl)⟩,⟨rfl,by show ax X≤2;omega⟩,trivial⟩ ⟨⟨rfl,vq (by kernel_rfl)⟩,⟨rfl,by show ax X≤2;omega⟩,trivial⟩
    (by show Nat.mx _ (ax bs)≤2;rw[hb];exact vq (by kernel_rfl)) (bH _) ⟨by kernel_rfl,by rw[vn hX];kernel_rfl,trivial⟩ ⟨by kernel_rfl,by kernel_rfl,trivial⟩
    (by show _=AHeap.put (AHeap.put _ _ _) _ (j5 _ (.row 8 false 0 X));rw[vn hX];kernel_rfl)
theorem jI{g:Nat}{bs:List AV}{u u2:TUnit}{A B:AObj}{K K2:AV}(hb:ax bs=0)(h1:ax [.agg [iV u.act,iV u.item,iV u.n,iV u.kind,.str u.label,.ls (u.head.map aQ),.ls (u.words.map aQ),K]]=0)(h2:ax [.agg [iV u2.act,iV u2.item,iV u2.n,iV u2.kind,.str u2.label,.ls (u2.head.map aQ),.ls (u2.words.map aQ),K2]]=0)(h:kD g (.ptr 0 0 0 0::bs) (ab [dA u K]) (.tuple []) (ab [dA u2 K2])):
    kD g (.ptr 0 0 0 0::bs) (ab [dA u K,A,B]) (.tuple []) (ab [dA u2 K2,A,B]):=
  fz fV 0 h1 h2 h (Bj _ rfl hb) rfl rfl (by simp only[ax,AV.top,hb];rfl) rfl (by kernel_rfl) (by kernel_rfl)
/-- The unit is found; it has kids; a kid more is laid into its row, or into a new one. -/
theorem Ln(g:Nat)(bs:List AV)(p:PId)(u u2:TUnit)(n2:Nat)(Z:Nat→List AV)(hA:ax [eU u,aY p,.func (.func g) [] bs]=0)(hp:(al u.act p.a&&(al u.item p.i&&al u.n p.n))=true)(hl:u.kids.length≤2^20)(hne:u.kids≠[])(hn2:u2.kids.length=n2)
    (hdA:∀k,By (Nat.beq k 0) true→kD g (.ptr 0 0 0 0::bs) (ab [dA u (.slice 3 0 0 u.kids.length (some (u.kids.length+k))),vu p,zO,dB ((u.kids++List.replicate k be).map aV)]) (.tuple []) (ab [dA u2 (.ls (u2.kids.map aV)),vu p,zO,dB ((u.kids++List.replicate k be).map aV)]))
    (hdB:∀k,By (Nat.beq k 0) false→kD g (.ptr 0 0 0 0::bs) (ab [dA u (.slice 3 0 0 u.kids.length (some (u.kids.length+k))),vu p,zO,dB ((u.kids++List.replicate k be).map aV)]) (.tuple []) (ab [dA u2 (.slice 3 0 0 n2 (some (u.kids.length+k))),vu p,zO,dB (u2.kids.map aV++Z k)])):kP 161 [eU u,aY p,.func (.func g) [] bs] (eU u2):=by
  let q:=az [iV u2.act,iV u2.item,iV u2.n,iV u2.kind,aK u2.label,aW (u2.head.map aQ),aW (u2.words.map aQ),aW (u2.kids.map aV)];let q1:=[az [iV u.act,iV u.item,iV u.n,iV u.kind,aK u.label,aW (u.head.map aQ),aW (u.words.map aQ),aW (u.kids.map aV)]];let q2:=[iV p.a,iV p.i,iV p.n];let q3:=[az [iV 0,iV 0,iV 0,iV 0,aK [],af,af,af]];exact bC (ht:=oA) Tryz.func161<|Kv 5 (lq ((Tryz.prog).underlying 34) u.act u.item u.n p.a p.i p.n<|ab [aZ 8 false 0 q1,aZ 3 false 0 [az q2],aZ 8 false 0 q3])<|Mt hp<|Mg 1<|Mq (ED u.kids hne hl (aZ 8 false 0 q1) (aZ 3 false 0 [az q2])<|aZ 8 false 0 q3) fun a _=>Ks 2 (a.beq 0) (fun b=>Me (hdA a b)<|Kf 1<|bd q) fun b=>Me (hdB a b)<|M2 (.fza 0 7 3 [3,6]<|u2.kids.map aV) (jQ rt rt rt ti) (cj (aq 0) (Vl (xs:=List.map aV u2.kids) (ys:=Z a) (n:=n2) sA)<|aX iZ u2.kids)<|Kf 1<|bd q
/-- The unit is found; it has no kids; it gets one. -/
theorem Lo(g:Nat)(bs:List AV)(p:PId)(u u2:TUnit)(hA:ax [eU u,aY p,.func (.func g) [] bs]=0)(hp:(al u.act p.a&&(al u.item p.i&&al u.n p.n))=true)(h0:u.kids=[])
    (hdN:kD g (.ptr 0 0 0 0::bs) (ab [dA u .nils,vu p,zO]) (.tuple []) (ab [dA u2 (.ls (u2.kids.map aV)),vu p,zO]))
    (hdP:kD g (.ptr 0 0 0 0::bs) (ab [dA u (.ps [] true),vu p,zO]) (.tuple []) (ab [dA u2 (.ls (u2.kids.map aV)),vu p,zO])):kP 161 [eU u,aY p,.func (.func g) [] bs] (eU u2):=by
  obtain⟨a,i,n,k,l,h,w,ks⟩:=u
  simp only[TUnit.kids]at h0
  subst h0
  let q:=az [iV u2.act,iV u2.item,iV u2.n,iV u2.kind,aK u2.label,aW (u2.head.map aQ),aW (u2.words.map aQ),aW (u2.kids.map aV)];let q1:=[iV p.a,iV p.i,iV p.n];exact bC (ht:=oA) Tryz.func161<|Kv 5 (lq ((Tryz.prog).underlying 34) (TUnit.mk a i n k l h w []).act (TUnit.mk a i n k l h w []).item (TUnit.mk a i n k l h w []).n p.a p.i p.n<|ab [aZ 8 false 0 [az [iV (TUnit.mk a i n k l h w []).act,iV (TUnit.mk a i n k l h w []).item,iV (TUnit.mk a i n k l h w []).n,iV (TUnit.mk a i n k l h w []).kind,aK l,aW<|List.map aQ (TUnit.mk a i n k l h w []).head,aW<|List.map aQ (TUnit.mk a i n k l h w []).words,aW []]],aZ 3 false 0 [az q1],aZ 8 false 0 [az [iV 0,iV 0,iV 0,iV 0,aK [],af,af,af]]])<|Mt hp<|Mg 1<|Mz 17 (fun(_:([]:List AV)=[])=>Mp Hu<|Ke 2 hdN<|Kf 1<|bd q)<|Mp Ht<|Ke 2 hdP<|Kf 1<|bd q
end Go.Proofs.YtaepacpodblomaaGreatDoor
