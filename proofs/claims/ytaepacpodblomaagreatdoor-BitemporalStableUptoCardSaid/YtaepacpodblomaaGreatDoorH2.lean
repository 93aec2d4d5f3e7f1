/- Functions walked: what each of them answers, for Appending gazettes changes neither the book known after k gazettes nor the days that the k-th gazette changed (arguments of bulk at most 1048576): part 2. Conditions: those that each theorem names. -/
import Derived.Test.YtaepacpodblomaaGreatDoorH1
namespace Go.Proofs.YtaepacpodblomaaGreatDoor
open Go Go.Ev
noncomputable def BW(most n:Int)(a:PAct):Bool:=aF most (n+Int.ofNat a.items.length)||(aF 100 (Int.ofNat a.title.length)||(aF 60 (Int.ofNat a.start.event.length)||aw (a.items.all mN)))
noncomputable def lO(most:Int):List PAct→Int→Option Int
  |[],n=>some n
  |a::r,n=>match BW most n a with|true=>none|false=>lO most r (n+Int.ofNat a.items.length)
noncomputable def vM(g:PGaz):Bool:=aF 8 (Int.ofNat g.acts.length)||aF 60 (Int.ofNat g.prior.length)
noncomputable def uc(most:Int):List PGaz→Int→Bool
  |[],_=>true
  |g::r,n=>match vM g with|true=>false|false=>match lO most g.acts n with|none=>false|some m=>uc most r m
noncomputable def Nf(gs:List PGaz)(most:Int):Bool:=match aF 8 (Int.ofNat gs.length)with|true=>false|false=>uc most gs 0
theorem Uz(gs:List PGaz)(most:Int)(hf:ni gs)(m1:0≤most)(m2:most≤2^20):kP 39 [.ls (gs.map aK),iV most] (.bool (Nf gs most)):=by
  obtain⟨f0,f1⟩:=hf
  have fa:∀g,g∈gs→∀a,a∈g.acts→a.items.length<2^60:=fun g hg a ha=>((f1 g hg).2 a ha).1
  have fb:∀g,g∈gs→g.acts.length<2^60:=fun g hg=>(f1 g hg).1
  have rr0 b' (h:(Nf gs most)=b':=by simp only[Nf,uc,vM,lO,BW,aS,aw,bS, *]):=h;exact bD Tryz.func39<|Kl 2 11 (ln aK gs)<|Ka 0 8 (Int.ofNat gs.length) (fun _ _=>Ky 0<|rr0 false) fun _ _=>Mg 1<|OX aK gs (0:Int) [0,1,5,6] (fun b _ c=>([aW<|gs.map aK,iV most,iV c,nV b],[])) (fun b c=>(0:Int)≤c∧c≤most∧uc most gs (0:Int)=uc most b c) (by(refine⟨by omega,by omega,?_⟩;first|rfl|(simp only[uc,vM,lO,aS,aw,bS, *]))) (fun _ _ _ _ _ _ b _=>Kl 2 15 (ln aK gs)<|Kh 0 b<|Ky 0<|rr0 true) fun b _ c d _ e f i j k _ l m=>Kl 2 15 (ln aK gs)<|Kt 0 k<|Kx 1 l<|Kl 2 24 (ln aa e.acts)<|Ka 1 8 (Int.ofNat e.acts.length) (fun b _=>Mt b<|Mt b<|Mt b<|Mt b<|Mt b<|Mt b<|MV b<|Ky 1<|rr0 false) fun k _=>Kh 0 k<|Kh 0 k<|Mx l<|Mh k<|Kh 0 k<|Kh 0 k<|Kh 0 k<|Kw 0 k<|Mb (aF 60<|Int.ofNat<|List.length e.prior) (fun b=>have:=aA b;Ky 0<|rr0 false) fun k=>have:=aG k;Mg 0<|OX aa e.acts c [0,1,5,6,7] (fun c _ d=>([aW<|gs.map aK,iV most,iV d,nV b,nV c],[])) (fun b d=>(0:Int)≤d∧d≤most∧lO most e.acts c=lO most b d) (by(exact⟨m.1,m.2.1,rfl⟩)) (fun _ _ c _ _ _ d _=>Kx 2 l<|Kl 2 41 (ln aa e.acts)<|Kh 0 d<|Kl 1 18 (dU b)<|Kf 0<|i c<|by(refine⟨by omega,by omega,?_⟩;first|rfl|(simp only[uc,vM,lO,aS,aw,bS, *]))) fun f _ i k _ m n o p q _ r _=>have:=fa e (bQ d j) m<|bQ k p;have:=fb e<|bQ d j;Kx 2 l<|Kl 2 41 (ln aa e.acts)<|Kt 0 q<|Kx 1 l<|Kx 2 r<|Kl 6 56 (ln Np m.items)<|Kl 0 57 (Le.wr (x:=i+Int.ofNat m.items.length) fZ)<|Ka 4 most (i+Int.ofNat m.items.length) (fun b _=>Mt b<|Mt b<|Mt b<|MV b<|Ky 3<|rr0 false) fun l _=>Kh 0 l<|Kh 0 l<|Kh 0 l<|Kw 0 l<|Ka 0 100 (Int.ofNat<|List.length m.title) (fun b _=>Mt b<|Mt b<|Mt b<|Mt b<|MV b<|Ky 1<|rr0 false) fun l _=>Kh 0 l<|Kh 0 l<|Kh 0 l<|Kh 0 l<|Kw 0 l<|Mb (aF 60<|Int.ofNat<|List.length m.start.event) (fun b=>have:=aA b;Ky 0<|rr0 false) fun l=>have:=aG l;K1 0 (.frz 0 [0,1,5,6,7,8,9]) ti<|tJ Np m.items [0,1,5,6,7,8,9] (fun c _=>([aW<|gs.map aK,iV most,iV<|i+Int.ofNat m.items.length,nV b,nV f,AV.pptr [aj [iV m.number,aV m.title,iV m.day,iV m.start.kind,iV m.start.day,aV m.start.event,aW<|m.items.map Np]] 0 0,nV c],[])) (fun b=>m.items.all mN=b.all mN) (by rfl) (fun _ _ _ _ _ b _=>Kl 3 77 (ln Np m.items)<|Kh 0 b<|Kl 1 44 (dU f)<|Kf 0<|o (i+Int.ofNat m.items.length)<|by(refine⟨by(simp only[oN]at *;omega),by assumption,?_⟩;simp only[lO,BW,aS,aw,bS, *])) fun b _ c _ e f i l n _ o _=>have o:=o.trans<|congrArg some<|ej e;Kl 3 77 (ln Np m.items)<|Kt 0 n<|Kx 2 o<|Kp 0 (Uq e<|by first|exact((f1 _ (bQ d j)).2 _ (bQ k p)).2 _ (bQ c l))<|Kn 0 (mN e) (fun _=>Kf 0<|cn<|rr0 false) fun _=>Kl 1 80 (dU b)<|Kf 0<|i<|by simp only[aS,aw,bS, *]at *
noncomputable def I8(gs:List PGaz)(p:aP):Bool:=Nf gs 24&&aw (aF 60 (Int.ofNat p.length))
theorem ifW(l:List PWord)(g:Nat)(q:PWord→Bool)(hp:∀k,k∈l→kP g [aQ k] (.bool (q k)))(hl:l.length<2^40):kP 291 [.ls (l.map aQ),.func (.func g) [] []] (iV (dD q l 0)):=by
  have rr0 b' (h:(dD q l 0)=b':=by first|exact mV zd0 hr0 hj0 ‹_› |exact hj0):=h;exact bD Tryz.func291<|Kl 2 7 (ln aQ l)<|Mg 0<|tJ aQ l [0,1,7,8] (fun a _=>([aW<|l.map aQ,bw (bj g) [] [],nV l.length,nV a],[])) (fun a=>dD q l (0:Nat)=dD q a (l.length-a.length)) sA (fun _ _ zd0 _ hr0 a hj0=>Kh 0 a<|Kf 0<|li<|rr0 (-1)) fun a _ zd0 _ b c d hr0 e _ f hj0=>Kt 0 e<|Kx 4 f<|Kp 0 (hp b<|by exact bQ zd0 hr0)<|Mb (q b) (fun _=>Kf 1<|li<|rr0<|Int.ofNat a) fun _=>Kl 0 18 (dU a)<|Kf 0<|d<|by exact kV zd0 hr0 hj0 (by omega)
theorem cfW(l:List PWord)(g:Nat)(q:PWord→Bool)(hp:∀k,k∈l→kP g [aQ k] (.bool (q k)))(hl:l.length<2^40):kP 263 [.ls (l.map aQ),.func (.func g) [] []] (.bool (l.any q)):=by
  have h:=ifW l g q hp hl
  have rr0 b' (h:(l.any q)=b':=by(rw[lY];simp only[aS,aw,bS,rG])):=h;exact bD Tryz.func263<|Kp 2 h<|Kf 1<|cn<|rr0<|aw<|aF (dD q l 0) 0
theorem Co(w:PWord):kP 262 [aQ w] (.bool (o7 w)):=by
  exact bD Tryz.func262<|Kv 4 (DE ((Tryz.prog).underlying 100) w.act w.item w.at_ 0 0 0<|ab [aX 4 false 0 [aj [aV w.text,iV w.act,iV w.item,iV w.at_]]])<|Kf 0<|bZ<|dJ<|aw<|al w.act 0&&(al w.item 0&&al w.at_ 0)
theorem RM(u:TUnit)(h1:u.head.length<2^40)(h2:u.words.length<2^40):kP 261 [eU u] (.bool (DK u)):=by
  have c1:=cfW u.head 262 o7 (fun k _=>Co k) h1
  have c2:=cfW u.words 262 o7 (fun k _=>Co k) h2
  have rr0 b' (h:(DK u)=b':=by(simp only[DK,fL,bg,bq,b6,aS,aw,bS, *];first|done|rfl)):=h;exact bD Tryz.func261<|Kv 5 (lz ((Tryz.prog).underlying 34) u.act u.item u.n 0 0 0<|ab [aX 8 false 0 [aj [iV u.act,iV u.item,iV u.n,iV u.kind,aV u.label,aW<|u.head.map aQ,aW<|u.words.map aQ,aW<|u.kids.map aY]]])<|Kb 0 (al u.act 0&&(al u.item 0&&al u.n 0)) (fun a=>Kt 0 a<|Kt 0 a<|Kt 0 a<|Mp c1<|Mt a<|Ku 0 a<|Kn 0 (u.head.any o7) (fun a=>Kt 0 (bF a)<|Kt 0 (bF a)<|Kt 0 (bF a)<|Mp c2<|Mt (bF a)<|Ku 0 (bF a)<|Kf 0<|cn<|rr0<|aw<|u.words.any o7) fun a=>Mh (bB a)<|Mh (bB a)<|Mh (bB a)<|Mh (bB a)<|My (bB a)<|Ky 0<|rr0 false) fun a=>Mh a<|Mh a<|Mh a<|Mh a<|My a<|Ky 2<|rr0 false
theorem Xl(u:TUnit)(h:mh u):kP 235 [eU u] (.bool (Ho u)):=by
  have e1:=xH u h
  have e2:=Lq 261 DK u (fun x hx=>by
      obtain⟨a,b,_⟩:=h.2 x hx
      grind[RM]) (by have h1:=bf u;have h3:=h.1;omega) (fun x hx=>by
      have h1:=bf x
      have h2:=dO hx
      have h3:=h.1
      omega)
  have rr0 b' (h:(Ho u)=b':=by(simp only[Ho,aS,aw,bS, *];first|done|rfl)):=h;exact bD Tryz.func235<|Kp 2 e1<|Kb 0 (ku u) (fun c=>Kt 0 c<|Mp e2<|MV c<|Kf 0<|cn<|rr0<|wJ DK u) fun c=>Mh c<|My c<|Ky 0<|rr0 false
theorem MC(p:PId)(u:TUnit)(hh:cj p u=false)(hn:nU u≤2^20):kP 171 [eU u,aU p] (.tuple [aU b6,iV (-1),.bool false]):=by
  have hw:=JC p u hh hn
  exact bD Tryz.func171<|Kp 6 hw<|Kf 8<|bZ<|eb [aj [iV 0,iV 0,iV 0],iV (-1),dJ false]
theorem MB(p:PId)(u:TUnit)(hh:cj p u=true)(hl:aF (Int.ofNat (aI p u).length) 2=true)(hn:nU u≤2^20):kP 171 [eU u,aU p] (.tuple [aU b6,iV (-1),.bool false]):=by
  have hw:=E5 p u hh hn
  exact bD Tryz.func171<|Kp 6 hw<|Kl 2 14 (ln aY<|aI p u)<|Kt 0 hl<|Kf 3<|bZ<|eb [aj [iV 0,iV 0,iV 0],iV (-1),dJ false]
theorem Pe(p:PId)(u:TUnit)(h:iQ p u=false)(hn:nU u≤2^20):kP 171 [eU u,aU p] (.tuple [aU b6,iV (-1),.bool false]):=by
  grind[MC,MB,iQ]
theorem Pc(p:PId)(u:TUnit)(h:iQ p u=true)(hn:nU u≤2^20):kP 171 [eU u,aU p] (.tuple [aU (su p u),iV (qv p u),.bool true]):=by
  have hl:aF (Int.ofNat (aI p u).length) 2=false:=by grind[iQ]
  have hl2:2≤(aI p u).length:=by have:=aG hl;grind
  have hh:cj p u=true:=by
    cases e:cj p u with
    |true=>rfl
    |false=>grind[Qr]
  have hw:=E5 p u hh hn
  have hlen:=l9 (p:=p) u
  have hm:H4 p u∈bp u:=JD u _ (iC (by omega))
  have hkn:∀k,k∈(H4 p u).kids→nU k≤2^20:=fun k hk=>b0 (dO (iP hm (K4 hk))) hn
  have hkl:(H4 p u).kids.length<2^40:=by have:=bf (H4 p u);have:=dO hm;omega
  have hi:=ZO (H4 p u).kids 233 p (cj p) (fun k hk=>by
    grind[cj,MD,ME]) hkl
  rw[Ig h,Ih h]
  generalize hG:H4 p u=y at *
  have hG2:gD (aI p u) ((aI p u).length -2)=y:=hG
  have rr0 b' (h:((bq y).a)=b':=by(rw[hG2];rfl)):=h;have rr1 b' (h:((bq y).i)=b':=by(rw[hG2];rfl)):=h;have rr2 b' (h:((bq y).n)=b':=by(rw[hG2];rfl)):=h;exact bD Tryz.func171<|Kp 6 hw<|Kl 2 14 (ln aY<|aI p u)<|Kh 0 hl<|Kl 2 19 (ln aY<|aI p u)<|Kl 0 20 (b7 (x:=Int.ofNat (aI p u).length -(2:Int)) (n:=(aI p u).length -2) fZ)<|Mx ((bK aY (oA:(aI p u).length -2<(aI p u).length)).trans<|congrArg some<|aO _)<|Mg 5<|M0 (.ren [2,3,0,1] [] [4,8,24,25])<|M1 (.frz 2 [4,8,24,25]) (cZ rt rt ti)<|Mp (ar.onArgs (.cons (bR (by(rw[hG2];done):(y.kids.map aY)=(List.map aY (gD (aI p u) ((aI p u).length -2)).kids)))<|lc .nil) hi:kP 232 [aW (List.map aY (gD (aI p u) ((aI p u).length -2)).kids),bw (bj 233) [] [AV.pptr [aj [iV p.a,iV p.i,iV p.n]] 0 0]] _)<|Kf 6 (eN<|.cons (aT (.cons (li<|rr0 (gD (aI p u)<|(aI p u).length -2).act)<|.cons (li<|rr1 (gD (aI p u)<|(aI p u).length -2).item)<|.cons (li<|rr2 (gD (aI p u)<|(aI p u).length -2).n) .nil)<|by kernel_rfl)<|lc<|lc .nil:Le _ (eb [aj [iV (gD (aI p u) ((aI p u).length -2)).act,iV (gD (aI p u) ((aI p u).length -2)).item,iV (gD (aI p u) ((aI p u).length -2)).n],iV (dD (cj p) y.kids 0),dJ true]))
theorem Pd(p:PId)(u:TUnit)(hn:nU u≤2^20):kP 171 [eU u,aU p] (.tuple [aU (su p u),iV (qv p u),.bool (iQ p u)]):=by
  grind[iQ,Pc,V7,Ph,Pe]
theorem ZK(p:PId)(u:TUnit)(h:cj p u=false)(hn:nU u≤2^20):kP 217 [eU u,aU p] (.ls ((pG p u).map aU)):=by
  have hw:=JC p u h hn
  have e:pG p u=[]:=by unfold pG;rw[AY h];rfl
  rw[e]
  let q:=[aX 8 false 0 [aj [iV u.act,iV u.item,iV u.n,iV u.kind,aV u.label,aW (u.head.map aQ),aW (u.words.map aQ),aW (u.kids.map aY)]],aX 3 false 0 [aj [iV p.a,iV p.i,iV p.n]]];let q1:=[ah,ah,iV (IntKind.i64.wrap (0-2))];exact bD Tryz.func217<|Kp 5 hw<|Mg 4<|Zj [5,6,7] (q1,q) True 0 ti fun _ _=>Kf 4 bN
theorem ZJ(p:PId)(u:TUnit)(h:cj p u=true)(hn:nU u≤2^20):kP 217 [eU u,aU p] (.ls ((pG p u).map aU)):=by
  have hw:=E5 p u h hn
  have hlen:=l9 (p:=p) u
  have hpos:0<(aI p u).length:=pS.2 (lQ h)
  have hac:=DY p u
  have rr0 b' (h:((pG p u).map aU)=b':=by first|rfl|(rw[R6 hx0 ‹_›];rfl)|(rw[R7 hx0.2.1 oA ‹_›])):=h;exact bD Tryz.func217<|Kp 5 hw<|Kl 0 6 (eX ((aI p u).map aY) false<|aZ iZ<|aI p u)<|Kl 1 12 (ln aY<|aI p u)<|Kl 0 13 (Le.wr (x:=Int.ofNat (aI p u).length -2) fZ)<|K1 0 (.frz 0 [5,6,7]) ti<|Sq Int Nat Nat (List PId) (Int.ofNat (aI p u).length -2) [5,6,7] (fun a=>([ah,aW<|(aI p u).map aY,iV a],[])) (fun a b c d=>([aM 0 b 0 c none,aW<|(aI p u).map aY,iV a],[aX 3 true b<|d.map aU])) (fun a=>a=Int.ofNat (aI p u).length -(2:Int)) (fun a _ b c=>b=c.length∧c=oe p u (a+(1:Int)).toNat∧((-1):Int)≤a∧a+(2:Int)≤↑(aI p u).length∧c.length≤(aI p u).length) (fun a=>(a+1).toNat) (fun a _ _ _=>(a+1).toNat) (by rfl) (fun a hx0 _ b=>have hx0:=hx0;Kd 1 a 0 (fun _ _=>Kl 2 20 (BV (x:=a) oA)<|Mx ((bK aY (gR:a.toNat<(aI p u).length)).trans<|congrArg some<|aO _)<|Kl 6 17 (Le.wr (x:=a-1) fZ)<|Kf 0<|b (a-1) 0 1 [PId.mk (gD (aI p u) a.toNat).act (gD (aI p u) a.toNat).item (gD (aI p u) a.toNat).n] (by exact⟨rfl,NT hx0 (by omega),by omega,by grind,by grind⟩) oA) fun _ _=>Kf 1 (Le.lsn<|rr0 []:Le _ (ah))) fun a b c d hx0 _ e=>have hx0:=hx0;Kd 1 a 0 (fun _ _=>Kl 2 20 (BV (x:=a) oA)<|Mx ((bK aY (oA:a.toNat<(aI p u).length)).trans<|congrArg some<|aO _)<|K1 2 .app (cZ (az b) (sA:c=(d.map aU).length) (by(refine aD (m:=2^21) ?_ ?_ ?_<;>omega):small (c+1) 24=true))<|M1 (.obj 0<|aX 3 true (b+1)<|(d++[PId.mk (gD (aI p u) a.toNat).act (gD (aI p u) a.toNat).item (gD (aI p u) a.toNat).n]).map aU) (congrArg (aX 3 true<|b+1)<|cS (f:=aU) (l:=d) (ws:=[PId.mk (gD (aI p u) a.toNat).act (gD (aI p u) a.toNat).item (gD (aI p u) a.toNat).n]))<|Kl 2 17 (Le.wr (x:=a-1) fZ)<|Kf 0<|e (a-1) (b+1) (c+1) (d++[PId.mk (gD (aI p u) a.toNat).act (gD (aI p u) a.toNat).item (gD (aI p u) a.toNat).n]) (by exact⟨by simp_all,HA hx0.2.1 hx0.2.2.2.1 (by omega),by omega,by omega,by(have z:=HA hx0.2.1 hx0.2.2.2.1 (by omega);grind)⟩) oA) fun _ _=>Mg 1<|M2 (.fsl 0 [] 4<|d.map aU) ti (cZ (az b) (tA aU d c (oA:(d).length=c))<|aZ Jq d)<|Ml 4 (eX (d.map aU) false<|aZ Jq d)<|Mf<|bR<|rr0<|d.map aU
theorem Hu(p:PId)(u:TUnit)(hn:nU u≤2^20):kP 217 [eU u,aU p] (.ls ((pG p u).map aU)):=by
  grind[ZJ,ZK]
theorem kM(u:TUnit)(s:PStep):kP 249 [eU u,ak s] (.bool (bH s u)):=by
  have rr0 b' (h:(bH s u)=b':=by(simp only[bH,bV,aS,aw,bS, *];first|done|rfl)):=h;exact bD Tryz.func249<|Kb 8 (al u.kind s.kind) (fun a=>Kt 0 a<|Kt 0 a<|Kt 0 a<|Kt 0 a<|Ku 0 a<|Kf 0<|cn<|rr0<|eZ u.label s.label) fun a=>Mh a<|Mh a<|Mh a<|Mh a<|My a<|Ky 0<|rr0 false
noncomputable abbrev jg(p:List PStep):AObj:=.row 1 false 0 [.ls (p.map ak)]
noncomputable abbrev Ef(ep n:Nat):AObj:=.row 1 false 0 [.slice 2 ep 0 n none]
noncomputable abbrev Bi(ep:Nat)(l:List TUnit):AObj:=.row 8 true ep (l.map aY)
noncomputable abbrev M6:AObj:=.row 1 false 0 [.nils]
theorem CF(s:PStep)(rs:List PStep)(u:TUnit)(h:By (bH s u) false):kD 248 [eU u,.ptr 0 0 0 0,.ptr 1 0 0 0] (ab [jg (s::rs),M6]) (.tuple []) (ab [jg (s::rs),M6]):=by
  have h':bH s u=false:=h
  exact eS Tryz.func248 fun a=>Kp 4 (kM u s)<|Mh h'<|M1 (.frz 2 []) (cZ rt rt ti)<|Mf a
theorem I5(s:PStep)(rs:List PStep)(u:TUnit)(h:By (bH s u) true):kD 248 [eU u,.ptr 0 0 0 0,.ptr 1 0 0 0] (ab [jg (s::rs),M6]) (.tuple []) (ab [jg (s::rs),Ef 0 1,Bi 0 [u]]):=by
  have h':bH s u=true:=h
  exact Oi Tryz.func248<|Kp 4 (kM u s)<|Mt h'<|Mg 7<|M0 (.ren [0,1,3,2] [] [])<|M1 (.frz 3 []) (jX rt rt rt ti)<|Mf<|et (az<|eb []) (by(simp only[Bi,eE,rH,aO];rfl):(ab [AObj.row 1 false 0 [AV.ls ((s::rs).map ak)],AObj.row 1 false 0 [AV.slice 2 0 0 1 none],AObj.row 8 true 0 [AV.agg [iV u.act,iV u.item,iV u.n,iV u.kind,AV.str u.label,AV.ls (u.head.map aQ),AV.ls (u.words.map aQ),AV.ls (u.kids.map aY)]]])=(ab [jg (s::rs),Ef 0 1,Bi 0 [u]]))
theorem Nw(s:PStep)(rs:List PStep)(u:TUnit)(ep n:Nat)(l:List TUnit)(h:By (bH s u) false):kD 248 [eU u,.ptr 0 0 0 0,.ptr 1 0 0 0] (ab [jg (s::rs),Ef ep n,Bi ep l]) (.tuple []) (ab [jg (s::rs),Ef ep n,Bi ep l]):=by
  have h':bH s u=false:=h
  exact eS Tryz.func248 fun a=>Kp 4 (kM u s)<|Mh h'<|M1 (.frz 3 []) (jX (tR 8 true ep 3<|aZ iZ l) rt rt ti)<|Mf a
theorem Nv(s:PStep)(rs:List PStep)(u:TUnit)(ep n:Nat)(l:List TUnit)(h:By (bH s u) true)(hn:n=l.length)(hl:l.length<2^30):kD 248 [eU u,.ptr 0 0 0 0,.ptr 1 0 0 0] (ab [jg (s::rs),Ef ep n,Bi ep l]) (.tuple []) (ab [jg (s::rs),Ef (ep+1) (n+1),Bi (ep+1) (l++[u])]):=by
  have h':bH s u=true:=h
  let q:=[iV 0,iV 0,iV 0,iV 0,aV [],ah,ah,ah];let q1:=List.map aY l++[aj q];exact eS Tryz.func248 fun a=>Kp 4 (kM u s)<|Mt h'<|Mg 3<|Mw (.apx q1<|.rix<|.rst (aj q) ((l++[u]).map aY)<|.go 0<|.frz 3 [] .fin)<|W5 rt (g0 (tR 8 true ep 4<|aZ iZ l) rt) (et (nT _ _:([aj q]:List AV)≠[]) rt) (et (cZ (az ep) (sA:n=(l.map aY).length) (by(refine aD (m:=2^31) ?_ ?_ ?_<;>(try simp only[lC,lN])<;>omega):small (n+([AV.agg [iV 0,iV 0,iV 0,iV 0,AV.str [],AV.nils,AV.nils,AV.nils]]).length) 120=true))<|az q1) (et (az<|ep+1) (oA:n<n+1)) rt (g0 (tR 8 true (ep+1) 4 (by exact VA _ rfl:ax q1=0)) rt) (cZ (az<|ep+1) (PM (f:=aY) (l:=l) (z:=aj q) (oA:n=(l).length))<|O8 (f:=aY) (g:=Go.Ev.eU) aO (l:=l) (z:=aj q) (w:=u) (oA:n=(l).length)) (jX (tR 8 true (ep+1) 3<|aZ iZ<|l++[u]) rt rt ti) a
theorem HZ(s:PStep)(rs:List PStep):∀(u:TUnit),∀(ep n:Nat)(l:List TUnit),n=l.length→l.length+nU u<2^30→kC 247 [eU u,.func (.func 248) [] [.ptr 0 0 0 0,.ptr 1 0 0 0]] (ab [jg (s::rs),Ef ep n,Bi ep l])
    (fun v h=>∃y:Nat×Nat×List TUnit,(y.2.1=y.2.2.length∧y.2.2=l++lW s u)∧v=.tuple []∧h=ab [jg (s::rs),Ef y.1 y.2.1,Bi y.1 y.2.2]):=by
  refine TUnit.ind fun u ih ep n l hn hl=>?_
  have hq:=jQ u
  have hkl:=bf u
  have hp:=zx s u
  rcases Bool.eq_false_or_eq_true (bH s u)with hc|hc
  · rw[hc]at hp
    exact qW Tryz.func247 fun a=>K1 2 (.frz 3 [1,2,6,7]) (jX (tR 8 true ep 3<|aZ iZ l) rt rt ti)<|Me (Nv s rs u ep n l hc hn oA)<|Kl 2 11 (ln aY u.kids)<|Mg 0<|U6 aY u.kids (ep+1) (n+1) (l++[u]) [1,10,11,12] (fun a _ b c d=>([bw (bj 248) [] [bz 0 0 0 0,bz 1 0 0 0],aW<|u.kids.map aY,nV u.kids.length,nV a],[aX 1 false 0 [aW<|(s::rs).map ak],aX 1 false 0 [aM 2 b 0 c none],aX 8 true b<|d.map aY])) (fun a _ b c=>b=c.length∧c++dx s a=l++[u]++dx s u.kids∧c.length+eJ a<2^30) gR (fun _ _ b c d _ _ _ e _=>Kh 0 e<|Mf<|a (b,c,d)<|by grind[mE]) fun a _ b c d e f g i j k m _ o _=>have o:=(o).trans<|congrArg some<|aO g;have:=cV (J:=fun a b=>b.2.1=b.2.2.length∧b.2.2++dx s a=l++[u]++dx s u.kids∧b.2.2.length+eJ a<2^30) (a:=(b,c,d)) k f;have e:=bQ e k;have f:d.length+nU g<2^30:=(by grind[bh]);Kt 0 m<|Mx o<|K1 4 (.frz 3 [1,10,11,12,16,17]) (jX (tR 8 true b 3<|aZ iZ d) rt rt ti)<|Mq (ih g e b c d oA f) fun b _=>Kl 0 19 (dU a)<|Kf 0<|j b.1 b.2.1 b.2.2<|by grind[bh,gE,mw]
  · rw[hc]at hp
    exact qW Tryz.func247 fun a=>K1 2 (.frz 3 [1,2,6,7]) (jX (tR 8 true ep 3<|aZ iZ l) rt rt ti)<|Me (Nw s rs u ep n l hc)<|Kl 2 11 (ln aY u.kids)<|Mg 0<|U6 aY u.kids ep n l [1,10,11,12] (fun a _ b c d=>([bw (bj 248) [] [bz 0 0 0 0,bz 1 0 0 0],aW<|u.kids.map aY,nV u.kids.length,nV a],[aX 1 false 0 [aW<|(s::rs).map ak],aX 1 false 0 [aM 2 b 0 c none],aX 8 true b<|d.map aY])) (fun a _ b c=>b=c.length∧c++dx s a=l++dx s u.kids∧c.length+eJ a<2^30) gR (fun _ _ b c d _ _ _ e _=>Kh 0 e<|Mf<|a (b,c,d)<|by grind[mE]) fun a _ b c d e f g i j k m _ o _=>have o:=(o).trans<|congrArg some<|aO g;have:=cV (J:=fun a b=>b.2.1=b.2.2.length∧b.2.2++dx s a=l++dx s u.kids∧b.2.2.length+eJ a<2^30) (a:=(b,c,d)) k f;have e:=bQ e k;have f:d.length+nU g<2^30:=(by grind[bh]);Kt 0 m<|Mx o<|K1 4 (.frz 3 [1,10,11,12,16,17]) (jX (tR 8 true b 3<|aZ iZ d) rt rt ti)<|Mq (ih g e b c d oA f) fun b _=>Kl 0 19 (dU a)<|Kf 0<|j b.1 b.2.1 b.2.2<|by grind[bh,gE,mw]
theorem HX(s:PStep)(rs:List PStep):∀(u:TUnit),nU u≤2^20→By (lW s u).isEmpty true→kD 247 [eU u,.func (.func 248) [] [.ptr 0 0 0 0,.ptr 1 0 0 0]] (ab [jg (s::rs),M6]) (.tuple []) (ab [jg (s::rs),M6]):=by
  refine TUnit.ind fun u ih hn he=>?_
  have hkl:=bf u
  have hp:=zx s u
  have he':=List.isEmpty_iff.1 (show(lW s u).isEmpty=true from he)
  rw[he']at hp
  rcases Bool.eq_false_or_eq_true (bH s u)with hc|hc
  · grind
  · rw[hc]at hp
    have hp:dx s u.kids=[]:=hp.symm
    exact eS Tryz.func247 fun a=>K1 2 (.frz 2 [1,2,6,7]) (cZ rt rt ti)<|Me (CF s rs u hc)<|Kl 2 11 (ln aY u.kids)<|Mg 0<|tJ aY u.kids [1,10,11,12] (fun a _=>([bw (bj 248) [] [bz 0 0 0 0,bz 1 0 0 0],aW<|u.kids.map aY,nV u.kids.length,nV a],[aX 1 false 0 [aW<|(s::rs).map ak],aX 1 false 0 [ah]])) (fun a=>dx s a=[]) oA (fun _ _ _ _ _ b _=>Kh 0 b<|Mf a) fun a _ b _ c d e f g _ h i=>have h:=h.trans<|congrArg some<|aO c;have j:=bQ b f;have b:=b0 (tK<|iz<|bQ b f) hn;have f:(lW s c).isEmpty=true:=(by rw[gE]at i;rw[(List.append_eq_nil_iff.1 i).1];rfl);Kt 0 g<|Mx h<|K1 4 (.frz 2 [1,10,11,12,16,17]) (cZ rt rt ti)<|Me (ih c j b f)<|Kl 0 19 (dU a)<|Kf 0<|e<|by grind[gE]
theorem Rz(s:PStep)(rs:List PStep):∀(u:TUnit),nU u≤2^20→By (lW s u).isEmpty false→kC 247 [eU u,.func (.func 248) [] [.ptr 0 0 0 0,.ptr 1 0 0 0]] (ab [jg (s::rs),M6])
    (fun v h=>∃y:Nat×Nat×List TUnit,(y.2.1=y.2.2.length∧y.2.2=lW s u)∧v=.tuple []∧h=ab [jg (s::rs),Ef y.1 y.2.1,Bi y.1 y.2.2]):=by
  refine TUnit.ind fun u ih hn he=>?_
  have hq:=jQ u
  have hkl:=bf u
  have hp:=zx s u
  rcases Bool.eq_false_or_eq_true (bH s u)with hc|hc
  · rw[hc]at hp
    exact qW Tryz.func247 fun a=>K1 2 (.frz 2 [1,2,6,7]) (cZ rt rt ti)<|Me (I5 s rs u hc)<|Kl 2 11 (ln aY u.kids)<|Mg 0<|U6 aY u.kids (0:Nat) (1:Nat) ([u]:List TUnit) [1,10,11,12] (fun a _ b c d=>([bw (bj 248) [] [bz 0 0 0 0,bz 1 0 0 0],aW<|u.kids.map aY,nV u.kids.length,nV a],[aX 1 false 0 [aW<|(s::rs).map ak],aX 1 false 0 [aM 2 b 0 c none],aX 8 true b<|d.map aY])) (fun a _ b c=>b=c.length∧c++dx s a=[u]++dx s u.kids∧c.length+eJ a<2^30) gR (fun _ _ b c d _ _ _ e _=>Kh 0 e<|Mf<|a (b,c,d)<|by grind[mE]) fun a _ b c d e f g i j k l _ m _=>have m:=(m).trans<|congrArg some<|aO g;have:=cV (J:=fun a b=>b.2.1=b.2.2.length∧b.2.2++dx s a=[u]++dx s u.kids∧b.2.2.length+eJ a<2^30) (a:=(b,c,d)) k f;have:=bQ e k;have e:d.length+nU g<2^30:=(by grind[bh]);Kt 0 l<|Mx m<|K1 4 (.frz 3 [1,10,11,12,16,17]) (jX (tR 8 true b 3<|aZ iZ d) rt rt ti)<|Mq (HZ s rs g b c d oA e) fun b _=>Kl 0 19 (dU a)<|Kf 0<|j b.1 b.2.1 b.2.2<|by grind[bh,gE,mw]
  · rw[hc]at hp
    have hne:dx s u.kids≠[]:=fun e=>by
      simp_all
    exact qW Tryz.func247 fun a=>K1 2 (.frz 2 [1,2,6,7]) (cZ rt rt ti)<|Me (CF s rs u hc)<|Kl 2 11 (ln aY u.kids)<|Mg 0<|kn Nat Nat (List TUnit) aY u.kids [1,10,11,12] (fun a _=>([bw (bj 248) [] [bz 0 0 0 0,bz 1 0 0 0],aW<|u.kids.map aY,nV u.kids.length,nV a],[aX 1 false 0 [aW<|(s::rs).map ak],aX 1 false 0 [ah]])) (fun a _ b c d=>([bw (bj 248) [] [bz 0 0 0 0,bz 1 0 0 0],aW<|u.kids.map aY,nV u.kids.length,nV a],[aX 1 false 0 [aW<|(s::rs).map ak],aX 1 false 0 [aM 2 b 0 c none],aX 8 true b<|d.map aY])) (fun a=>a≠[]∧dx s a=dx s u.kids) (fun a _ b c=>b=c.length∧c++dx s a=dx s u.kids∧c.length+eJ a<2^30) (by(exact⟨KU rfl hne,rfl⟩)) (fun _ _ _ _ _ _ _=>Mw .abs (sA:False)) (fun a _ b c d f g i j k _ l _=>have l:=(l).trans<|congrArg some<|aO d;have:=cV (J:=fun a _=>a≠[]∧dx s a=dx s u.kids) (a:=()) j c;have c:=bQ b j;have m:=b0 (tK<|iz<|bQ b j) hn;have:nU d+eJ f≤2^20:=(by have z:=oM b j;omega);Kt 0 k<|Mx l<|K1 4 (.frz 2 [1,10,11,12,16,17]) (cZ rt rt ti)<|Ms (lW s d).isEmpty (fun b=>Me (HX s rs d m b)<|Kl 0 19 (dU a)<|Kf 0<|g<|by(have e:dx s f=dx s u.kids:=(by grind[gE]);exact⟨KU e hne,e⟩)) fun b=>Mq (ih d c m b) fun b _=>Kl 0 19 (dU a)<|Kf 0<|i b.1 b.2.1 b.2.2<|by grind[gE,mw]) (fun _ _ b c d _ _ _ f g=>Kh 0 f<|Mf<|a (b,c,d)<|by(refine⟨g.1,?_⟩;have:=g.2.1;rw[mE,dC]at this;simp_all)) fun a _ b c d f g i j _ k l m _ n _=>have n:=(n).trans<|congrArg some<|aO i;have:=cV (J:=fun a b=>b.2.1=b.2.2.length∧b.2.2++dx s a=dx s u.kids∧b.2.2.length+eJ a<2^30) (a:=(b,c,d)) l g;have:=bQ f l;have:=b0 (tK<|iz<|bQ f l) hn;have:nU i+eJ j≤2^20:=(by have z:=oM f l;omega);Kt 0 m<|Mx n<|K1 4 (.frz 3 [1,10,11,12,16,17]) (jX (tR 8 true b 3<|aZ iZ d) rt rt ti)<|Mq (HZ s rs i b c d oA<|by grind[bh]) fun b _=>Kl 0 19 (dU a)<|Kf 0<|k b.1 b.2.1 b.2.2<|by grind[gE,mw]
theorem UJ(u:TUnit)(hb:km []=true):kP 204 [eU u,.ls (([]:List PStep).map ak)] (.ls ((eQ u []).map aY)):=by
  have hv:=vQ [] (by simp) (fun s h=>by grind)
  rw[Gp hb]
  have rr0 b' (h:(List.map aY [u])=b':=by(rw[eE,aO];rfl)):=h;let q:=[aj [iV u.act,iV u.item,iV u.n,iV u.kind,aV u.label,aW (u.head.map aQ),aW (u.words.map aQ),aW (u.kids.map aY)]];exact bD Tryz.func204<|Kp 3 hv<|Kf 10 (Le.lsp (rr0 q)<|by rfl:Le _ (AV.ps q true))
def Gt(u:TUnit)(s:PStep)(rs:List PStep)(z1000:List TUnit):Prop:=eQ u (s::rs)=gg rs z1000∧eJ z1000≤2^22
noncomputable def Gs(u:TUnit)(s:PStep)(rs:List PStep)(z1000:List TUnit):List AV×List AObj:=([AV.ptr 0 0 0 0,AV.ptr 1 0 0 0],[AObj.row 1 false 0 [AV.ls ((s::rs).map ak)],AObj.row 1 false 0 [AV.ls (z1000.map aY)]])
theorem QL(u:TUnit)(s:PStep)(rs:List PStep)(hn:nU u≤2^11)(hl:(s::rs).length<2^40)(hs:∀x,x∈s::rs→x.label.length≤2^39):kP 204 [eU u,.ls ((s::rs).map ak)] (.ls ((eQ u (s::rs)).map aY)):=by
  have hv:=vQ (s::rs) hl hs
  have hk:=HC s
  have hpb:=FO s u fun x hx=>dO hx
  have hpm:nU u*nU u≤2^11*2^11:=Nat.mul_le_mul hn hn
  have hd:((s::rs).drop 1).length=rs.length:=rfl
  have rr0 b' (h:((eQ u (s::rs)).map aY)=b':=by first|rfl|(rw[I4 ‹_›];rfl)|(rw[hj0.1,H9])):=h;exact bD Tryz.func204<|Kp 3 hv<|Kn 0 (km<|s::rs) (fun _=>Kf 0 (Le.lsn<|rr0 []:Le _ (ah))) fun _=>Mg 0<|Mj (List TUnit) [3,5] (Gs u s rs) (Gt u s rs) (fun a=>Kl 1 21 (ln ak<|s::rs)<|Kp 5 hk<|Kb 0 (al s.kind 0&&eZ s.label []) (fun _=>Kl 1 31 (Le.lsp (t:=true) (Eq.symm<|To (f:=aY) (g:=Go.Ev.eU) (ws:=[u]) aO) (az 0:ax ([aj [iV u.act,iV u.item,iV u.n,iV u.kind,aV u.label,aW (u.head.map aQ),aW (u.words.map aQ),aW (u.kids.map aY)]])=0))<|Mg 0<|M0 (.ren [1,2,0] [] [3,5])<|M1 (.frz 2 [3,5]) (cZ rt rt ti)<|Mf<|a [u] (by exact⟨Gr (by omega) (by assumption),by grind[bh,mX]⟩:eQ u (s::rs)=gg rs [u]∧eJ [u]≤2^22)) fun _=>Mg 1<|M0 (.ren [1,2,0] [] [3,5,16,17])<|M1 (.frz 2 [3,5,16,17]) (cZ rt rt ti)<|Ms (lW s u).isEmpty (fun b=>Me (HX s rs u oA b)<|M1 (.obw 1<|aW []) (WW bN rfl rfl)<|Mf<|a [] (by exact⟨by rw[xQ (by omega) (by assumption),List.isEmpty_iff.1 b],by grind⟩:eQ u (s::rs)=gg rs []∧eJ []≤2^22)) fun b=>Mq (Rz s rs u oA b) fun b c=>M2 (.fzo 1 2 [3,5]<|b.2.2.map aY) (cZ rt rt ti) (cZ (az b.1) (tA aY b.2.2 b.2.1 (oA:(b.2.2).length=b.2.1))<|aZ iZ b.2.2)<|Mf<|a b.2.2 (by exact⟨by rw[xQ (by omega) (by assumption),c.2],by grind⟩:eQ u (s::rs)=gg rs b.2.2∧eJ b.2.2≤2^22)) fun a b=>have:eQ u (s::rs)=gg rs a∧eJ a≤2^22:=b;K1 0 (.slp<|((s::rs).drop 1).map ak) (cZ (hM 2 ak (s::rs) fun _=>rfl) (et (sA:1≤((s::rs).map ak).length) (oA:((s::rs).map ak).length≤((s::rs).map ak).length))<|YZ (f:=ak) (l:=s::rs) (k:=1))<|Kl 0 34 (ln ak<|List.drop 1<|s::rs)<|Mg 0<|M0 (.ren [1,0] [] [5,33,34,35])<|M1 (.frz 1 [5,33,34,35]) (et rt ti)<|OX ak (List.drop 1<|s::rs) a [5,33,34,35] (fun a _ b=>([bz 0 0 0 0,aW<|((s::rs).drop 1).map ak,nV ((s::rs).drop 1).length,nV a],[aX 1 false 0 [aW<|b.map aY]])) (fun a b=>eQ u (s::rs)=gg a b∧eJ b≤2^22) sA (fun _ _ a _ _ _ b hj0=>Kh 0 b<|Kf 1<|bR<|rr0<|a.map aY) fun a _ b _ _ c d e _ f _ g hj0=>have:b.length≤eJ b:=yJ _;Kt 0 f<|Mx g<|Kl 5 40 (ln aY b)<|Mg 0<|kn Nat Nat (List TUnit) aY b [5,7,8,33,34,35,39,40,41] (fun d _=>([bz 0 0 0 0,bz 1 0 0 0,ah,aW<|((s::rs).drop 1).map ak,nV ((s::rs).drop 1).length,nV a,aW<|b.map aY,nV b.length,nV d],[aX 1 false 0 [aW<|b.map aY],aX 2 false 0 [aj [iV c.kind,aV c.label]]])) (fun d _ e f g=>([bz 0 0 0 0,bz 1 0 0 0,aM 2 e 0 f none,aW<|((s::rs).drop 1).map ak,nV ((s::rs).drop 1).length,nV a,aW<|b.map aY,nV b.length,nV d],[aX 1 false 0 [aW<|b.map aY],aX 2 false 0 [aj [iV c.kind,aV c.label]],aX 8 true e<|g.map aY])) (fun a=>cA c a=cA c b) (fun a _ d e=>d=e.length∧e++cA c a=cA c b∧e.length+eJ a<2^30) (by rfl) (fun _ _ _ _ _ b c=>Kh 0 b<|Kl 0 61 bN<|Kl 1 62 (dU a)<|K1 0 (.frz 1 [5,33,34,35]) (et rt ti)<|Mf<|e []<|by exact fA hj0 c) (fun d _ e f g i j k l n _ o _=>have p:=(o).trans<|congrArg some<|aO g;have:=cV (J:=fun a _=>cA c a=cA c b) (a:=()) l f;have:nU g+eJ i≤eJ b:=oM e l;have:g.kids.length<nU g:=bf g;have:nU g=1+eJ g.kids:=jQ g;Kt 0 n<|Mx p<|Kl 5 47 (ln aY g.kids)<|K1 0 (.frz 2 [5,7,8,33,34,35,39,40,41,46,47,48]) (cZ rt rt ti)<|kn Nat Nat (List TUnit) aY g.kids [5,7,8,33,34,35,39,40,41,46,47,48] (fun e _=>([bz 0 0 0 0,bz 1 0 0 0,ah,aW<|((s::rs).drop 1).map ak,nV ((s::rs).drop 1).length,nV a,aW<|b.map aY,nV b.length,nV d,aW<|g.kids.map aY,nV g.kids.length,nV e],[aX 1 false 0 [aW<|b.map aY],aX 2 false 0 [aj [iV c.kind,aV c.label]]])) (fun e _ f i j=>([bz 0 0 0 0,bz 1 0 0 0,aM 2 f 0 i none,aW<|((s::rs).drop 1).map ak,nV ((s::rs).drop 1).length,nV a,aW<|b.map aY,nV b.length,nV d,aW<|g.kids.map aY,nV g.kids.length,nV e],[aX 1 false 0 [aW<|b.map aY],aX 2 false 0 [aj [iV c.kind,aV c.label]],aX 8 true f<|j.map aY])) (fun a=>List.filter (bH c) a++cA c i=cA c b) (fun a _ d e=>d=e.length∧e++(List.filter (bH c) a++cA c i)=cA c b∧e.length+(eJ a+eJ i)<2^30) (by simp_all[gA]) (fun _ _ _ _ _ a _=>Kh 0 a<|Kl 0 60 (dU d)<|Kf 0<|j sA) (fun a _ d e f j k l n p _ o _=>have o:=(o).trans<|congrArg some<|aO f;have:=cV (J:=fun a _=>List.filter (bH c) a++cA c i=cA c b) (a:=()) n e;have:nU f+eJ j≤eJ g.kids:=oM d n;Kt 0 p<|Mx o<|Kp 4 (kM f c)<|Mb (bH c f) (fun _=>K1 3 (.obj 3<|aX 8 true 0<|List.map aY [f]) (congrArg (aX 8 true 0)<|To (f:=aY) (g:=Go.Ev.eU) (ws:=[f]) aO)<|Kl 1 59 (dU a)<|K1 0 (.ren [0,1,3,2] [3] [5,7,8,33,34,35,39,40,41,46,47,48]) (tS 8 true 0<|aZ iZ [f])<|M1 (.frz 3 [5,7,8,33,34,35,39,40,41,46,47,48]) (jX (tR 8 true 0 3<|aZ iZ [f]) rt rt ti)<|Mf<|l 0 1 [f] gR) fun _=>Kl 0 59 (dU a)<|K1 0 (.frz 2 [5,7,8,33,34,35,39,40,41,46,47,48]) (cZ rt rt ti)<|Mf<|k sA) (fun _ _ a e f _ _ _ g _=>Kh 0 g<|Kl 0 60 (dU d)<|Kf 0<|k a e f gR) fun a _ d e f j k l n _ p q r _ o _=>have o:=(o).trans<|congrArg some<|aO l;have k:=cV (J:=fun a d=>d.2.1=d.2.2.length∧d.2.2++(List.filter (bH c) a++cA c i)=cA c b∧d.2.2.length+(eJ a+eJ i)<2^30) (a:=(d,e,f)) q k;have:nU l+eJ n≤eJ g.kids:=oM j q;Kt 0 r<|Mx o<|Kp 4 (kM l c)<|Mb (bH c l) (fun _=>K1 2 .app (cZ (az d) (sA:e=(f.map aY).length) (by(refine aD (m:=2^31) ?_ ?_ ?_<;>omega):small (e+1) 120=true))<|M1 (.obj 2<|aX 8 true (d+1)<|(f++[l]).map aY) (congrArg (aX 8 true<|d+1)<|yV (f:=aY) (g:=Go.Ev.eU) (l:=f) (ws:=[l]) aO)<|Kl 1 59 (dU a)<|K1 0 (.frz 3 [5,7,8,33,34,35,39,40,41,46,47,48]) (jX (tR 8 true (d+1) 3<|aZ iZ<|f++[l]) rt rt ti)<|Mf<|p (d+1) (e+1) (f++[l])<|by exact hB1 k (by omega)) fun _=>Kl 0 59 (dU a)<|K1 0 (.frz 3 [5,7,8,33,34,35,39,40,41,46,47,48]) (jX (tR 8 true d 3<|aZ iZ f) rt rt ti)<|Mf<|p d e f<|by exact hB0 k (by omega)) (fun _ _ b c f _ _ _ g i=>let j:=List.map aY f;Kh 0 g<|Mg 0<|M2 (.fsl 2 [5,33,34,35] 61 j) (cZ rt rt ti) (cZ (az b) (tA aY f c (oA:(f).length=c))<|aZ iZ f)<|Ml 61 (eX j false<|aZ iZ f)<|Kl 1 62 (dU a)<|K1 0 (.frz 1 [5,33,34,35]) (et rt ti)<|Mf<|e f<|by exact fB hj0 i.2.1) fun d _ e f g i j k l _ n o p _ q _=>have r:=(q).trans<|congrArg some<|aO k;have j:=cV (J:=fun a d=>d.2.1=d.2.2.length∧d.2.2++cA c a=cA c b∧d.2.2.length+eJ a<2^30) (a:=(e,f,g)) o j;have:nU k+eJ l≤eJ b:=oM i o;have:k.kids.length<nU k:=bf k;have:nU k=1+eJ k.kids:=jQ k;Kt 0 p<|Mx r<|Kl 5 47 (ln aY k.kids)<|K1 0 (.frz 3 [5,7,8,33,34,35,39,40,41,46,47,48]) (jX (tR 8 true e 3<|aZ iZ g) rt rt ti)<|U6 aY k.kids e f g [5,7,8,33,34,35,39,40,41,46,47,48] (fun e _ f g i=>([bz 0 0 0 0,bz 1 0 0 0,aM 2 f 0 g none,aW<|((s::rs).drop 1).map ak,nV ((s::rs).drop 1).length,nV a,aW<|b.map aY,nV b.length,nV d,aW<|k.kids.map aY,nV k.kids.length,nV e],[aX 1 false 0 [aW<|b.map aY],aX 2 false 0 [aj [iV c.kind,aV c.label]],aX 8 true f<|i.map aY])) (fun a _ d e=>d=e.length∧e++(List.filter (bH c) a++cA c l)=cA c b∧e.length+(eJ a+eJ l)<2^30) (by(exact gB j)) (fun _ _ a e f _ _ _ g _=>Kh 0 g<|Kl 0 60 (dU d)<|Kf 0<|n a e f gR) fun a _ d e f g i j n o p r _ q _=>have q:=(q).trans<|congrArg some<|aO j;have i:=cV (J:=fun a d=>d.2.1=d.2.2.length∧d.2.2++(List.filter (bH c) a++cA c l)=cA c b∧d.2.2.length+(eJ a+eJ l)<2^30) (a:=(d,e,f)) p i;have:nU j+eJ n≤eJ k.kids:=oM g p;Kt 0 r<|Mx q<|Kp 4 (kM j c)<|Mb (bH c j) (fun _=>K1 2 .app (cZ (az d) (sA:e=(f.map aY).length) (by(refine aD (m:=2^31) ?_ ?_ ?_<;>omega):small (e+1) 120=true))<|M1 (.obj 2<|aX 8 true (d+1)<|(f++[j]).map aY) (congrArg (aX 8 true<|d+1)<|yV (f:=aY) (g:=Go.Ev.eU) (l:=f) (ws:=[j]) aO)<|Kl 1 59 (dU a)<|K1 0 (.frz 3 [5,7,8,33,34,35,39,40,41,46,47,48]) (jX (tR 8 true (d+1) 3<|aZ iZ<|f++[j]) rt rt ti)<|Mf<|o (d+1) (e+1) (f++[j])<|by exact hB1 i (by omega)) fun _=>Kl 0 59 (dU a)<|K1 0 (.frz 3 [5,7,8,33,34,35,39,40,41,46,47,48]) (jX (tR 8 true d 3<|aZ iZ f) rt rt ti)<|Mf<|o d e f<|by exact hB0 i (by omega)
theorem UW(u:TUnit)(p:List PStep)(hn:nU u≤2^11)(hl:p.length<2^40)(hs:∀x,x∈p→x.label.length≤2^39):kP 204 [eU u,.ls (p.map ak)] (.ls ((eQ u p).map aY)):=by
  cases p with
  |nil=>exact UJ u rfl
  |cons s rs=>grind[QL]
theorem Nd(u:TUnit)(p:List PStep)(L:List TUnit)(hf:kP 204 [eU u,.ls (p.map ak)] (.ls (L.map aY)))(hL:L.length≤2^22):kP 140 [eU u,.ls (p.map ak)] (.ls ((L.map bq).map aU)):=by
  have rr0 b' (h:((L.map bq).map aU)=b':=by first|rfl|(rw[←hj0];rfl)|(rw[←hj0.2.2.1];simp)):=h;exact bD Tryz.func140<|Kp 4 hf<|Kl 0 11 (ln aY L)<|K1 0 (.frz 0 [5,10,11,12]) ti<|kn Nat Nat (List PId) aY L [5,10,11,12] (fun a _=>([ah,aW<|L.map aY,nV L.length,nV a],[])) (fun a _ b c d=>([aM 0 b 0 c none,aW<|L.map aY,nV L.length,nV a],[aX 3 true b<|d.map aU])) (fun a=>a=L) (fun a _ b c=>b=c.length∧(0:Nat)<c.length∧c++List.map bq a=List.map bq L∧c.length+a.length=L.length) (by rfl) (fun _ _ _ _ _ a hj0=>Kh 0 a<|Kf 1 (Le.lsn<|rr0 []:Le _ (ah))) (fun a _ _ b c d _ e f g _ i _=>have i:=(i).trans<|congrArg some<|aO c;have hj0:=cV (J:=fun a _=>a=L) (a:=()) f b;Kt 0 g<|Mx i<|Kl 9 21 (jq a)<|Mg 0<|M0 (.ren [1,0] [] [5,10,11,12])<|M1 (.frz 1 [5,10,11,12]) (et rt ti)<|Mf<|e 0 1 [PId.mk c.act c.item c.n]<|by(refine⟨rfl,by simp,?_,?_⟩<;>(rw[←hj0])<;>(first|rfl|grind))) (fun _ _ a b c _ _ _ d hj0=>Kh 0 d<|Mg 1<|M2 (.fsl 0 [] 4<|c.map aU) ti (cZ (az a) (tA aU c b (oA:(c).length=b))<|aZ Jq c)<|Ml 4 (eX (c.map aU) false<|aZ Jq c)<|Mf<|bR<|rr0<|c.map aU) fun a _ b c d _ e f g _ i j k _ l _=>have l:=(l).trans<|congrArg some<|aO f;have hj0:=cV (J:=fun a b=>b.2.1=b.2.2.length∧(0:Nat)<b.2.2.length∧b.2.2++List.map bq a=List.map bq L∧b.2.2.length+a.length=L.length) (a:=(b,c,d)) j e;Kt 0 k<|Mx l<|K1 6 .app (cZ (az b) (sA:c=(d.map aU).length) (by(refine aD (m:=2^25) ?_ ?_ ?_<;>omega):small (c+1) 24=true))<|M1 (.obj 0<|aX 3 true (b+1)<|(d++[PId.mk f.act f.item f.n]).map aU) (congrArg (aX 3 true<|b+1)<|cS (f:=aU) (l:=d) (ws:=[PId.mk f.act f.item f.n]))<|Kl 1 21 (jq a)<|K1 0 (.frz 1 [5,10,11,12]) (et (tR 3 true (b+1) 1<|aZ Jq<|d++[PId.mk f.act f.item f.n]) ti)<|Mf<|i (b+1) (c+1) (d++[PId.mk f.act f.item f.n])<|by(refine⟨by simp_all,by simp,?_,?_⟩<;>first|(rw[←hj0.2.2.1,eE,nY];rfl)|(rw[←hj0.2.2.1];simp;done)|grind)
theorem Na(u:TUnit)(p:List PStep)(hf:kP 140 [eU u,.ls (p.map ak)] (.ls (([]:List PId).map aU))):kP 107 [eU u,.ls (p.map ak)] (.tuple [aU b6,iV 7]):=by
  exact bD Tryz.func107<|Kp 4 hf<|Kf 8<|bZ<|eb [aj [iV 0,iV 0,iV 0],iV 7]
theorem Nc(u x:TUnit)(p:List PStep)(hf:kP 140 [eU u,.ls (p.map ak)] (.ls ([bq x].map aU))):kP 107 [eU u,.ls (p.map ak)] (.tuple [aU (bq x),iV 0]):=by
  exact bD Tryz.func107<|Kp 4 hf<|Kf 13<|bZ<|eb [aj [iV (bq x).a,iV (bq x).i,iV (bq x).n],iV 0]
theorem Nb(u:TUnit)(p:List PStep)(a b:PId)(r:List PId)(hf:kP 140 [eU u,.ls (p.map ak)] (.ls ((a::b::r).map aU))):kP 107 [eU u,.ls (p.map ak)] (.tuple [aU b6,iV 8]):=by
  have q1:al (Int.ofNat (r.length+1+1)) 0=false:=rfl
  have q2:al (Int.ofNat (r.length+1+1)) 1=false:=rfl
  exact bD Tryz.func107<|Kp 4 hf<|Kl 2 11 (ln aU<|a::b::r)<|Kf 8<|bZ<|eb [aj [iV 0,iV 0,iV 0],iV 8]
/-- The way of an address, whatever it finds. -/
theorem Ny(u:TUnit)(p:List PStep)(hf:kP 204 [eU u,.ls (p.map ak)] (.ls ((eQ u p).map aY)))(hn:nU u≤2^11):kP 107 [eU u,.ls (p.map ak)] (.tuple [aU (aH u p).1,iV (aH u p).2]):=by
  have ha:=Nd u p (eQ u p) hf (I3 p hn)
  cases e:eQ u p with
  |nil=>grind[GE,Na]
  | cons x r=>
    cases r with
    |nil=>grind[GD,Nc]
    |cons y r=>grind[GC,Nb]
noncomputable abbrev zU:AV:=.agg [iV 0,iV 0,iV 0,iV 0,.str [],.nils,.nils,.nils]
noncomputable abbrev dG(xs:List AV):AObj:=.row 8 false 0 xs
theorem Ug{L Z:List AV}{n i:Nat}(hn:L.length=n)(hi:i<n):((L++Z).drop (i+1)).take (n-(i+1))=L.drop (i+1):=by
  grind
theorem Uh{L Z:List AV}{n i:Nat}(hn:L.length=n)(hi:i<n):bv (L++Z) (0+i) (L.drop (i+1))=L.eraseIdx i++(L.drop (n-1)++Z):=by
  unfold bv
  grind
theorem Ec{L Z:List AV}{z:AV}{n i:Nat}(hn:L.length=n)(hi:i<n):bv (L.eraseIdx i++(L.drop (n-1)++Z)) (n-1) (List.replicate 1 z)=L.eraseIdx i++(z::Z):=by
  unfold bv
  have h1:(L.eraseIdx i).length=n-1:=by grind
  have h2:(L.drop (n-1)).length=1:=by grind
  grind
theorem Ye{a b:Nat}(h:a≠b):al (Int.ofNat a) (Int.ofNat b)=false:=by
  grind[re]
theorem Rb(L Z:List AV)(n k i:Nat)(hi:i+1<n)(hn:L.length=n)(hs:n≤2^20)(hf:dl 8 L=true)(hZ:Z.length=k)(hT:ax (L++Z)=0):kD 228 [.slice 0 0 0 n (some (n+k)),nV i,nV (i+1)] (ab [dG (L++Z)]) (.slice 0 0 0 (n-1) (some (n+k))) (ab [dG (L.eraseIdx i++(zU::Z))]):=by
  have hq:al (Int.ofNat i) (Int.ofNat (i+1))=false:=Ye (by omega)
  let q:=AHeap.mk 1000000 (bC (ab [aX 8 false 0 (L++Z)]) ([0]) Tr.nil);let q1:=ab [aX 8 false 0 (L.eraseIdx i++(L.drop (n-1)++Z))];let q2:=ab [aX 8 false 0 (L++Z)];let q3:=(some (aM 0 0 0 n (some (n+k))));let q4:=aM 0 0 (i+1) (n-(i+1)) (some (n+k-(i+1)));let q5:=(some (nV (i+1)));let q6:=(some (nV i));let q7:=(some (nV n));let q8:=AHeap.mk 1 (bC q2 ([0,0]) Tr.nil);let q9:=aM 0 0 0 (n-1) (some (n+k));let q10:=aM 0 0 (n-1) 1 (some (k+1));let q11:=aM 0 0 0 i (some (n+k));exact eS Tryz.func228 fun a=>Ko 5 (by exact Df (xs:=L++Z) (l:=i) (h:=i+1) (m:=n) (by kernel_rfl) (by rfl) (by rfl) (by rfl) (by omega) (by omega) (by omega) (by omega) (by omega) (by omega) (by omega):bb q2 (dq (8) q2 q3 q6 q5 q7)=some (ARes.val (AV.slice 0 0 i 1 (some (n-i))) q2))<|Kh 2 hq<|Kv 4 (by exact iq (xs:=L++Z) (l:=0) (h:=i) (by kernel_rfl) (by rfl) (by rfl) (by omega) (by omega) (by omega) (by omega) (by omega) (by omega):bb (q) (dq (8) (q) q3 (none) q6 (none))=some (ARes.val q11 q))<|Kv 1 (by exact iq (xs:=L++Z) (l:=i+1) (h:=n) (by kernel_rfl) (by rfl) (by rfl) (by omega) (by omega) (by omega) (by omega) (by omega) (by omega):bb (q) (dq (8) (q) q3 q5 (none) (none))=some (ARes.val q4 q))<|Md rt (g0 (tR 8 false 0 1 (oA:ax (L++Z)=0))<|g0 (tR 8 false 0 1 (oA:ax (L++Z)=0)) rt) (by exact Lu (new:=L.drop (i+1)) rfl (yO rfl (Ug hn (by omega))) (rb hf) (fun e=>by have:=congrArg List.length e;grind) (by grind) (by grind) (aD (m:=2^20) (by grind) (by omega) (by omega)) (by grind) (Uh hn (by omega)):eg (cp (8) (120) (q8) ((some q11)) ((some q4)))=some (ARes.val q9 (AHeap.put q8 0 (AObj.row 8 false 0 (L.eraseIdx i++(L.drop (n-1)++Z))))))<|Ko 4 (by exact iq (xs:=L.eraseIdx i++(L.drop (n-1)++Z)) (l:=n-1) (h:=n) (by kernel_rfl) (by rfl) (by rfl) (by omega) (by omega) (by omega) (by omega) (by omega) (by omega):bb q1 (dq (8) q1 ((some q9)) ((some (nV (n-1)))) q7 (none))=some (ARes.val q10 q1))<|Mo (by exact Jk rfl (by kernel_rfl) (Ec hn (by omega)):eg (v9 (8) (AV.agg [iV 0,iV 0,iV 0,iV 0,AV.str [],AV.nils,AV.nils,AV.nils]) q1 ((some q10)))=some (ARes.val (AV.tuple []) (ab [AObj.row 8 false 0 (L.eraseIdx i++zU::Z)])))<|Kf 1 a
theorem Ra(L Z:List AV)(k i:Nat)(hn:L.length=i+1)(hs:i<2^20)(hk:0<k)(hZ:Z.length=k)(hT:ax (L++Z)=0):kD 228 [.slice 0 0 0 (i+1) (some (i+1+k)),nV i,nV (i+1)] (ab [dG (L++Z)]) (.slice 0 0 0 i (some (i+1+k))) (ab [dG (L.eraseIdx i++(zU::Z))]):=by
  have hq:al (Int.ofNat i) (Int.ofNat (i+1))=false:=Ye (by omega)
  have hr:L.eraseIdx i++(L.drop (i+1-1)++Z)=L++Z:=by
    rw[Oq,BG (by omega),dC,←nY,show i+1-1=i from rfl,Jp]
  have hc:bv (L++Z) i (List.replicate 1 zU)=L.eraseIdx i++(zU::Z):=by
    have h:=Ec (z:=zU) (Z:=Z) hn (show i<i+1 by omega)
    grind
  let q:=ab [aX 8 false 0 (L++Z)];let q1:=AHeap.mk 1000000 (bC q ([0]) Tr.nil);let q2:=(some (nV (i+1)));let q3:=aM 0 0 0 i (some (i+1+k));let q4:=(some (aM 0 0 0 (i+1) (some (i+1+k))));let q5:=(some (nV i));let q6:=AHeap.mk 1 (bC q ([0,0]) Tr.nil);let q7:=aM 0 0 (i+1) 0 (some k);let q8:=aM 0 0 i 1 (some (k+1));exact eS Tryz.func228 fun a=>Ko 5 (by exact Df (xs:=L++Z) (l:=i) (h:=i+1) (m:=i+1) (by kernel_rfl) (by rfl) (by rfl) (by rfl) (by omega) (by omega) (by omega) (by omega) (by omega) (by omega) (by omega):bb q (dq (8) q q4 q5 q2 q2)=some (ARes.val (AV.slice 0 0 i 1 (some 1)) q))<|Kh 2 hq<|Kv 4 (by exact iq (xs:=L++Z) (l:=0) (h:=i) (by kernel_rfl) (by rfl) (by rfl) (by omega) (by omega) (by omega) (by omega) (by omega) (by omega):bb (q1) (dq (8) (q1) q4 (none) q5 (none))=some (ARes.val q3 q1))<|Kv 1 (by exact iq (xs:=L++Z) (l:=i+1) (h:=i+1) (by kernel_rfl) (by rfl) (by rfl) (by omega) (by omega) (by omega) (by omega) (by omega) (by omega):bb (q1) (dq (8) (q1) q4 q2 (none) (none))=some (ARes.val q7 q1))<|Md rt (g0 (tR 8 false 0 1 (oA:ax (L++Z)=0))<|g0 (tR 8 false 0 1 (oA:ax (L++Z)=0)) rt) (by exact R3 (yO rfl List.take_zero):eg (cp (8) (120) (q6) ((some q3)) ((some q7)))=some (ARes.val q3 q6))<|Ko 4 (by exact iq (xs:=L++Z) (l:=i) (h:=i+1) (by kernel_rfl) (by rfl) (by rfl) (by omega) (by omega) (by omega) (by omega) (by omega) (by omega):bb q (dq (8) q ((some q3)) q5 q2 (none))=some (ARes.val q8 q))<|Mo (by exact Jk rfl (by kernel_rfl) hc:eg (v9 (8) (AV.agg [iV 0,iV 0,iV 0,iV 0,AV.str [],AV.nils,AV.nils,AV.nils]) q ((some q8)))=some (ARes.val (AV.tuple []) (ab [AObj.row 8 false 0 (L.eraseIdx i++zU::Z)])))<|Kf 1 a
theorem Ry(L:List AV)(i:Nat)(hn:L.length=i+1)(hs:i<2^20)(hT:ax L=0):kD 228 [.slice 0 0 0 (i+1) (some (i+1)),nV i,nV (i+1)] (ab [dG L]) (.slice 0 0 0 i (some (i+1))) (ab [dG (L.eraseIdx i++[zU])]):=by
  have hq:al (Int.ofNat i) (Int.ofNat (i+1))=false:=Ye (by omega)
  have hr:L.eraseIdx i++(L.drop (i+1-1)++[])=L:=by
    rw[Oq,BG (by omega),dC,dC,show i+1-1=i from rfl,Jp]
  have hc:bv L i (List.replicate 1 zU)=L.eraseIdx i++[zU]:=by
    have h:=Ec (z:=zU) (Z:=[]) hn (show i<i+1 by omega)
    grind
  let q:=ab [aX 8 false 0 L];let q1:=AHeap.mk 1000000 (bC q ([0]) Tr.nil);let q2:=(some (nV (i+1)));let q3:=aM 0 0 0 i (some (i+1));let q4:=(some (aM 0 0 0 (i+1) (some (i+1))));let q5:=(some (nV i));let q6:=aM 0 0 i 1 (some 1);let q7:=AHeap.mk 1 (bC q ([0,0]) Tr.nil);let q8:=aM 0 0 0 0 (some 0);exact eS Tryz.func228 fun a=>Ko 5 (by exact Df (xs:=L) (l:=i) (h:=i+1) (m:=i+1) (by kernel_rfl) (by rfl) (by rfl) (by rfl) (by omega) (by omega) (by omega) (by omega) (by omega) (by omega) (by omega):bb q (dq (8) q q4 q5 q2 q2)=some (ARes.val q6 q))<|Kh 2 hq<|Kv 4 (by exact iq (xs:=L) (l:=0) (h:=i) (by kernel_rfl) (by rfl) (by rfl) (by omega) (by omega) (by omega) (by omega) (by omega) (by omega):bb (q1) (dq (8) (q1) q4 (none) q5 (none))=some (ARes.val q3 q1))<|Kv 1 (by exact J1 (xs:=L) (l:=i+1) (h:=i+1) (by kernel_rfl) (by rfl) (by rfl) (by rfl) rfl:bb (q1) (dq (8) (q1) q4 q2 (none) (none))=some (ARes.val q8 q1))<|Md rt (g0 (tR 8 false 0 1 (oA:ax (L)=0))<|g0 (tR 8 false 0 1 (oA:ax (L)=0)) rt) (by exact R3 (yO rfl List.take_zero):eg (cp (8) (120) (q7) ((some q3)) ((some q8)))=some (ARes.val q3 q7))<|Ko 4 (by exact iq (xs:=L) (l:=i) (h:=i+1) (by kernel_rfl) (by rfl) (by rfl) (by omega) (by omega) (by omega) (by omega) (by omega) (by omega):bb q (dq (8) q ((some q3)) q5 q2 (none))=some (ARes.val q6 q))<|Mo (by exact Jk rfl (by kernel_rfl) hc:eg (v9 (8) (AV.agg [iV 0,iV 0,iV 0,iV 0,AV.str [],AV.nils,AV.nils,AV.nils]) q ((some q6)))=some (ARes.val (AV.tuple []) (ab [AObj.row 8 false 0 (L.eraseIdx i++[zU])])))<|Kf 1 a
theorem Rv(L Z:List AV)(n i:Nat)(hi:i<n)(hn:L.length=n)(hs:n≤2^20)(hf:dl 8 L=true)(hT:ax (L++Z)=0):kD 228 [.slice 0 0 0 n (some (n+Z.length)),nV i,nV (i+1)] (ab [dG (L++Z)]) (.slice 0 0 0 (n-1) (some (n+Z.length))) (ab [dG (L.eraseIdx i++(zU::Z))]):=by
  rcases fF (i+1) n with h|h
  · exact Rb L Z n _ i h hn hs hf rfl hT
  · obtain rfl:n=i+1:=by omega
    cases Z with
    |nil=>rw[dC];rw[dC]at hT;exact Ry L i hn (by omega) hT
    |cons z r=>exact Ra L (z::r) _ i hn (by omega) (lT _) rfl hT
/-- A list with an element more at a place. -/
def gn(i:Nat)(x:AV)(l:List AV):List AV:=l.take i++(x::l.drop i)
theorem AZ{i:Nat}{x:AV}{l:List AV}(h:i≤l.length):(gn i x l).length=l.length+1:=by
  grind[gn]
theorem Gj{x:AV}{l:List AV}{n:Nat}(h:l.length=n):gn n x l=l++[x]:=by
  grind[gn]
theorem YH(n:Nat):al (Int.ofNat n) (Int.ofNat n)=true:=bV _
theorem ZM{a b:Nat}(h:a<b):aF (Int.ofNat a) (Int.ofNat b)=true:=nc (by simp_all)
theorem ZN{a b:Nat}(h:b≤a):aF (Int.ofNat a) (Int.ofNat b)=false:=kf (by simp_all)
theorem Ub{L Z:List AV}{x z:AV}{n:Nat}(h:L.length=n):bv (L++z::Z) (0+n) [x]=gn n x L++Z:=by
  unfold bv
  rw[Gj h,eO,←h,List.take_left,show(L++z::Z).drop (L.length+[x].length)=Z by rw[←yf,List.drop_left];rfl]
theorem Tb{L Z:List AV}{z:AV}{n i:Nat}(h:L.length=n)(hi:i<n):bv (L++z::Z) (i+1) (L.drop i)=L.take (i+1)++(L.drop i++Z):=by
  unfold bv
  rw[List.take_append_of_le_length (by omega),nY,wY,show i+1+(L.length-i)=L.length+1 by omega,←yf,List.drop_left];rfl
theorem P5{L Z:List AV}{x:AV}{n i:Nat}(h:L.length=n)(hi:i<n):bv (L.take (i+1)++(L.drop i++Z)) i [x]=gn i x L++Z:=by
  unfold bv gn
  grind
theorem Tz{L:List AV}{z x:AV}{n i:Nat}(h:L.length=n)(hi:i<n):bv (L.take i++List.replicate (n+1-i) z) i [x]=L.take i++(x::List.replicate (n-i) z):=by
  unfold bv
  have h1:(L.take i).length=i:=by grind
  have e:n+1-i=(n-i)+1:=by omega
  rw[List.take_append_of_le_length (by omega),BI (by omega),←yf]
  simp_all
theorem P0{L:List AV}{z x:AV}{n i:Nat}(h:L.length=n)(hi:i<n):bv (L.take i++(x::List.replicate (n-i) z)) (i+1) (L.drop i)=gn i x L:=by
  unfold bv gn
  have h1:(L.take i).length=i:=by grind
  have h2:(L.take i++(x::List.replicate (n-i) z)).length=n+1:=by grind
  have e:(L.take i++(x::List.replicate (n-i) z)).drop (i+1+(L.drop i).length)=[]:=BG (by grind)
  grind
theorem Qb(L Z:List AV)(x z:AV)(t:Bool)(n k:Nat)(hn:L.length=n)(hs:n<2^20)(hk:Z.length=k)(hx:dl 8 [x]=true):kD 163 [.slice 0 0 0 n (some (n+(k+1))),nV n,.ps [x] t] (ab [dG (L++z::Z)]) (.slice 0 0 0 (n+1) (some (n+(k+1)))) (ab [dG (gn n x L++Z)]):=by
  have hq:=YH n
  let q:=ab [aX 8 false 0 (L++z::Z)];exact eS Tryz.func163 fun a=>Ko 2 (by exact iq (xs:=L++z::Z) (l:=n) (h:=n) (by kernel_rfl) (by rfl) (by rfl) (by omega) (by omega) (by omega) (by omega) (by omega) (by omega):bb q (dq (8) q ((some (AV.slice 0 0 0 n (some (n+(k+1)))))) ((some (nV n))) (none) (none))=some (ARes.val (AV.slice 0 0 n 0 (some (k+1))) q))<|Kt 11 hq<|Ko 1 (by exact Lu (new:=[x]) rfl (by rfl) hx (nT _ _) (by simp_all) (by simp_all) (aD (m:=2^20) (by grind) (by omega) (by omega)) rfl (Ub hn):eg (cp (8) (120) (ab [AObj.row 8 false 0 (L++z::Z)]) ((some (AV.slice 0 0 0 n (some (n+(k+1)))))) ((some (AV.ps [x] t))))=some (ARes.val (AV.slice 0 0 0 (n+1) (some (n+(k+1)))) (ab [AObj.row 8 false 0 (gn n x L++Z)])))<|Kf 0 a
theorem Qa(L:List AV)(x:AV)(t:Bool)(n:Nat)(hn:L.length=n)(hs:n<2^20)(hx:dl 8 [x]=true)(hT:ax L=0)(hI:ax (gn n x L)=0):kD 163 [.slice 0 0 0 n (some n),nV n,.ps [x] t] (ab [dG L]) (.ls (gn n x L)) (ab [dG L]):=by
  have hq:=YH n
  have hIl:(gn n x L).length=n+1:=(AZ (by omega)).trans (by omega)
  let q:=ab [aX 8 false 0 L];exact eS Tryz.func163 fun a=>Ko 2 (by exact J1 (xs:=L) (l:=n) (h:=n) (by kernel_rfl) (by rfl) (by rfl) (by rfl) rfl:bb q (dq (8) q ((some (AV.slice 0 0 0 n (some n)))) ((some (nV n))) (none) (none))=some (ARes.val (AV.slice 0 0 0 0 (some 0)) q))<|Kt 11 hq<|Ko 1 (by exact US (new:=[x]) rfl (by rfl) hx (nT _ _) (by simp_all) (aD (m:=2^20) (by grind) (by omega) (by omega)) (by grind[Gj]) ((AZ (by omega)).trans (by omega)):eg (cp (8) (120) (ab [AObj.row 8 false 0 L]) ((some (AV.slice 0 0 0 n (some n)))) ((some (AV.ps [x] t))))=some (ARes.val (AV.slice 1 0 0 (n+1) none) (ab [AObj.row 8 false 0 L,AObj.row 8 true 0 (gn n x L)])))<|Mg 0<|M2 (.fsl 1 [] 6<|gn n x L) (et (tR 8 false 0 1 (oA:ax (L)=0)) ti) (cZ (az 0) (VQ (oA:(gn n x L).length=n+1)) (oA:ax (gn n x L)=0))<|Ml 6 (eX (gn n x L) false (oA:ax (gn n x L)=0))<|Mf a
theorem Qy(L Z:List AV)(x z:AV)(t:Bool)(n k i:Nat)(hi:i<n)(hn:L.length=n)(hs:n<2^20)(hk:Z.length=k)(hx:dl 8 [x]=true)(hf:dl 8 L=true)(hT:ax (L++z::Z)=0)(hov:kD 225 [.ps [x] t,.slice 0 0 (i+1) (n-i) (some (n+(k+1)-(i+1)))] (ab [dG (L++z::Z)]) (.bool false) (ab [dG (L++z::Z)])):kD 163 [.slice 0 0 0 n (some (n+(k+1))),nV i,.ps [x] t] (ab [dG (L++z::Z)]) (.slice 0 0 0 (n+1) (some (n+(k+1)))) (ab [dG (gn i x L++Z)]):=by
  have hq:al (Int.ofNat i) (Int.ofNat n)=false:=Ye (by omega)
  have hl:aF (Int.ofNat (n+(k+1))) (Int.ofNat (n+1))=false:=ZN (by omega)
  let q:=ab [aX 8 false 0 (L++z::Z)];let q1:=ab [aX 8 false 0 (L.take (i+1)++(L.drop i++Z))];let q2:=AHeap.mk 1000000 (bC q ([0]) Tr.nil);let q3:=aM 0 0 0 (n+1) (some (n+(k+1)));let q4:=aM 0 0 i (n+1-i) (some (n+(k+1)-i));let q5:=(some (nV i));let q6:=aM 0 0 (i+1) (n-i) (some (n+(k+1)-(i+1)));let q7:=(some (nV (i+1)));let q8:=(some (aM 0 0 0 n (some (n+(k+1)))));exact eS Tryz.func163 fun a=>Ko 2 (by exact iq (xs:=L++z::Z) (l:=i) (h:=n) (by kernel_rfl) (by rfl) (by rfl) (by omega) (by omega) (by omega) (by omega) (by omega) (by omega):bb q (dq (8) q q8 q5 (none) (none))=some (ARes.val (AV.slice 0 0 i (n-i) (some (n+(k+1)-i))) q))<|Kh 11 hq<|Kl 2 28 (jq n)<|Kh 2 hl<|Kl 3 59 (jq n)<|Mo (by exact iq (xs:=L++z::Z) (l:=0) (h:=n+1) (by kernel_rfl) (by rfl) (by rfl) (by omega) (by omega) (by omega) (by omega) (by omega) (by omega):bb q (dq (8) q q8 (none) ((some (nV (n+1)))) (none))=some (ARes.val q3 q))<|Kl 5 65 (jq i)<|Mo (by exact iq (xs:=L++z::Z) (l:=i+1) (h:=n+1) (by kernel_rfl) (by rfl) (by rfl) (by omega) (by omega) (by omega) (by omega) (by omega) (by omega):bb q (dq (8) q ((some q3)) q7 (none) (none))=some (ARes.val q6 q))<|Me hov<|Mg 4<|Ma (jq i)<|Mv (by exact iq (xs:=L++z::Z) (l:=i+1) (h:=n+1) (by kernel_rfl) (by rfl) (by rfl) (by omega) (by omega) (by omega) (by omega) (by omega) (by omega):bb (q2) (dq (8) (q2) ((some q3)) q7 (none) (none))=some (ARes.val q6 q2))<|Kv 1 (by exact iq (xs:=L++z::Z) (l:=i) (h:=n+1) (by kernel_rfl) (by rfl) (by rfl) (by omega) (by omega) (by omega) (by omega) (by omega) (by omega):bb (q2) (dq (8) (q2) ((some q3)) q5 (none) (none))=some (ARes.val q4 q2))<|Md rt (g0 (tR 8 false 0 1 (oA:ax (L++z::Z)=0))<|g0 (tR 8 false 0 1 (oA:ax (L++z::Z)=0)) rt) (by exact Ld (zs:=((L++z::Z).drop i).take (n+1-i)) rfl (yO rfl rfl) (by grind[rb]) (by grind) (by grind[Tb]):eg (uE (8) ((AHeap.mk 1 (bC (ab [AObj.row 8 false 0 (L++z::Z)]) ([0,0]) Tr.nil))) ((some (AV.slice 0 0 (i+1) (n-i) (some (n+(k+1)-(i+1)))))) ((some (AV.slice 0 0 i (n+1-i) (some (n+(k+1)-i))))))=some (ARes.val (nV (n-i)) (AHeap.put (AHeap.mk 1 (bC (ab [AObj.row 8 false 0 (L++z::Z)]) ([0,0]) Tr.nil)) 0 (AObj.row 8 false 0 (L.take (i+1)++(L.drop i++Z))))))<|Ko 1 (by exact iq (xs:=L.take (i+1)++(L.drop i++Z)) (l:=i) (h:=n+1) (by kernel_rfl) (by rfl) (by rfl) (by omega) (by omega) (by omega) (by omega) (by omega) (by omega):bb q1 (dq (8) q1 ((some q3)) q5 (none) (none))=some (ARes.val q4 q1))<|Ko 0 (by exact Ld (zs:=[x]) rfl (by rfl) (ra hx) (by grind) (by grind[List.take_of_length_le,P5]):eg (uE (8) q1 ((some q4)) ((some (AV.ps [x] t))))=some (ARes.val (iV 1) (ab [AObj.row 8 false 0 (gn i x L++Z)])))<|Kf 1 a
theorem Qv(L:List AV)(x:AV)(t:Bool)(n i:Nat)(hi:i<n)(hn:L.length=n)(hs:n<2^20)(hx:dl 8 [x]=true)(hf:dl 8 L=true)(hT:ax L=0)(hT2:ax (L.take i++(x::List.replicate (n-i) zU))=0)(hI:ax (gn i x L)=0):kD 163 [.slice 0 0 0 n (some n),nV i,.ps [x] t] (ab [dG L]) (.ls (gn i x L)) (ab [dG L]):=by
  have hq:al (Int.ofNat i) (Int.ofNat n)=false:=Ye (by omega)
  have hl:aF (Int.ofNat n) (Int.ofNat (n+1))=true:=ZM (by omega)
  have hIl:(gn i x L).length=n+1:=(AZ (by omega)).trans (by omega)
  let q:=ab [aX 8 false 0 L,aX 8 true 0 (L.take i++x::List.replicate (n-i) zU)];let q1:=ab [aX 8 false 0 L,aX 8 true 0 (L.take i++List.replicate (n+1-i) zU)];let q2:=ab [aX 8 false 0 L];let q3:=(some (nV i));let q4:=AHeap.mk 1000000 (bC q ([0]) Tr.nil);let q5:=aM 0 0 i (n-i) (some (n-i));let q6:=(some (aM 0 0 0 n (some n)));let q7:=AHeap.mk 2 (bC q ([1,0]) Tr.nil);let q8:=aM 1 0 i (n+1-i) none;let q9:=aM 1 0 0 (n+1) none;let q10:=aM 0 0 0 i (some n);exact eS Tryz.func163 fun a=>Ko 2 (by exact iq (xs:=L) (l:=i) (h:=n) (by kernel_rfl) (by rfl) (by rfl) (by omega) (by omega) (by omega) (by omega) (by omega) (by omega):bb q2 (dq (8) q2 q6 q3 (none) (none))=some (ARes.val q5 q2))<|Kh 11 hq<|Kl 2 28 (jq n)<|Kt 2 hl<|Ko 1 (by exact iq (xs:=L) (l:=0) (h:=i) (by kernel_rfl) (by rfl) (by rfl) (by omega) (by omega) (by omega) (by omega) (by omega) (by omega):bb q2 (dq (8) q2 q6 (none) q3 (none))=some (ARes.val q10 q2))<|Kl 2 37 (jq n)<|Ko 0 (by(show bb _ (some (AV.int .i64 (IntKind.i64.wrap (Int.ofNat (n+1)-Int.ofNat i))))=_;rw[show(Int.ofNat (n+1)-Int.ofNat i)=Int.ofNat (n+1-i) by grind,xF (by simp_all) (by grind)];rfl):bb (ab [AObj.row 8 false 0 L]) (Sh (pF BinOp.sub (Tryz.prog.underlying 3) (cR Tryz.prog 3) (c8 Tryz.prog 3) (dT Tryz.prog 10 3 0)) ((some (nV (n+1)))) ((some (nV i))))=some (ARes.val (nV (n+1-i)) (ab [AObj.row 8 false 0 L])))<|Mo (by exact Ty rfl (by omega) (by omega) (by kernel_rfl) (aD (m:=2^21) (by omega) (by omega) (by omega)) (aD (m:=2^21) (by omega) (by omega) (by omega)) (by simp_all) (by grind):eg (wF (8) (120) (AV.agg [iV 0,iV 0,iV 0,iV 0,AV.str [],AV.nils,AV.nils,AV.nils]) q2 ((some q10)) ((some (nV (n+1-i)))))=some (ARes.val q9 q1))<|Ko 2 (by exact J0 (xs:=L.take i++List.replicate (n+1-i) zU) (l:=i) (h:=n+1) (by kernel_rfl) (by rfl) (by rfl) (by omega) (by grind) (by omega) (by omega):bb q1 (dq (8) q1 ((some q9)) q3 (none) (none))=some (ARes.val q8 q1))<|Ko 0 (by exact Ld (zs:=[x]) rfl (by rfl) (ra hx) (by grind) (by grind[List.take_of_length_le,Tz]):eg (uE (8) q1 ((some q8)) ((some (AV.ps [x] t))))=some (ARes.val (iV 1) q))<|Mg 2<|Ma (jq i)<|Mv (by exact J0 (xs:=L.take i++(x::List.replicate (n-i) zU)) (l:=i+1) (h:=n+1) (by kernel_rfl) (by rfl) (by rfl) (by omega) (by grind) (by omega) (by omega):bb ((AHeap.mk 1000000 (bC (ab [AObj.row 8 false 0 L,AObj.row 8 true 0 (L.take i++x::List.replicate (n-i) zU)]) ([1]) Tr.nil))) (dq (8) ((AHeap.mk 1000000 (bC (ab [AObj.row 8 false 0 L,AObj.row 8 true 0 (L.take i++x::List.replicate (n-i) zU)]) ([1]) Tr.nil))) ((some (AV.slice 1 0 0 (n+1) none))) ((some (nV (i+1)))) (none) (none))=some (ARes.val (AV.slice 1 0 (i+1) (n-i) none) (AHeap.mk 1000000 (bC (ab [AObj.row 8 false 0 L,AObj.row 8 true 0 (L.take i++x::List.replicate (n-i) zU)]) ([1]) Tr.nil))))<|Kv 1 (by exact iq (xs:=L) (l:=i) (h:=n) (by kernel_rfl) (by rfl) (by rfl) (by omega) (by omega) (by omega) (by omega) (by omega) (by omega):bb (q4) (dq (8) (q4) q6 q3 (none) (none))=some (ARes.val q5 q4))<|Md rt (g0 (tR 8 true 0 2 (oA:ax (L.take i++x::List.replicate (n-i) zU)=0))<|g0 (tR 8 false 0 2 (oA:ax (L)=0)) rt) (by exact Ld (zs:=L.drop i) rfl (yO rfl (BI (by simp_all))) (ra (rb hf)) (by simp_all) (by grind[List.length_drop,P0]):eg (uE (8) (q7) ((some (AV.slice 1 0 (i+1) (n-i) none))) ((some q5)))=some (ARes.val (nV (n-i)) (AHeap.put q7 1 (AObj.row 8 true 0 (gn i x L)))))<|Mg 1<|M2 (.fsl 1 [] 6<|gn i x L) (et (tR 8 false 0 1 (oA:ax (L)=0)) ti) (cZ (az 0) (VQ (oA:(gn i x L).length=n+1)) (oA:ax (gn i x L)=0))<|Ml 6 (eX (gn i x L) false (oA:ax (gn i x L)=0))<|Mf a
theorem Gz(x:TUnit)(t:Bool):kP 163 [.nils,iV 0,.ps [eU x] t] (.ls [eU x]):=by
  have hx:dl 8 [eU x]=true:=by kernel_rfl
  have hIl:[eU x].length=1:=rfl
  have hI:ax [eU x]=0:=by kernel_rfl
  let q:=[aj [iV x.act,iV x.item,iV x.n,iV x.kind,aV x.label,aW (x.head.map aQ),aW (x.words.map aQ),aW (x.kids.map aY)]];exact bD Tryz.func163<|Ko 18 (by(simp only[cp,fC,jO,kz,gU,hx];rfl):eg (cp (8) (120) (ab []) ((some (AV.nils))) ((some (AV.ps [AV.agg [iV x.act,iV x.item,iV x.n,iV x.kind,AV.str x.label,AV.ls (x.head.map aQ),AV.ls (x.words.map aQ),AV.ls (x.kids.map aY)]] t))))=some (ARes.val (AV.slice 0 0 0 1 none) (ab [AObj.row 8 true 0 [eU x]])))<|K1 0 (.frz 0 [6]) ti<|Mf (eX q _<|by rfl:Le _ (AV.ps q false))
theorem Gq(x:TUnit)(t:Bool):kP 163 [.ps [] true,iV 0,.ps [eU x] t] (.ls [eU x]):=by
  have hx:dl 8 [eU x]=true:=by kernel_rfl
  have hIl:[eU x].length=1:=rfl
  have hI:ax [eU x]=0:=by kernel_rfl
  let q:=[aj [iV x.act,iV x.item,iV x.n,iV x.kind,aV x.label,aW (x.head.map aQ),aW (x.words.map aQ),aW (x.kids.map aY)]];exact bD Tryz.func163<|Ko 18 (by(simp only[cp,fC,jO,kz,gU,hx];rfl):eg (cp (8) (120) (ab []) ((some (AV.ps [] true))) ((some (AV.ps [AV.agg [iV x.act,iV x.item,iV x.n,iV x.kind,AV.str x.label,AV.ls (x.head.map aQ),AV.ls (x.words.map aQ),AV.ls (x.kids.map aY)]] t))))=some (ARes.val (AV.slice 0 0 0 1 none) (ab [AObj.row 8 true 0 [eU x]])))<|K1 0 (.frz 0 [6]) ti<|Mf (eX q _<|by rfl:Le _ (AV.ps q false))
noncomputable def JI:TypeInfo:=(Tryz.prog.info? 38).getD default
theorem Ot:Tryz.prog.info? 38=some JI:=by kernel_rfl
/-- A unit of zero values says no more than the zero value. -/
theorem XC:Le (aY be) zU:=aT (.cons (Le.refl _) (.cons (Le.refl _) (.cons (Le.refl _) (.cons (Le.refl _) (.cons (Le.refl _) (.cons Le.nils (.cons Le.nils (.cons Le.nils .nil)))))))) rfl
theorem H7:JI.size=8:=by kernel_rfl
theorem E9:JI.bytes=120:=by kernel_rfl
theorem YF(l:List TUnit):dl 8 (l.map aY)=true:=fp (fun u=>by cases u;rfl) l
/-- A copy of units: a row of its own, which holds zero values behind them. -/
theorem Ed(xs:List TUnit)(hne:xs≠[])(hl:xs.length≤2^20)(a b c:AObj):kC 224 [.ls (xs.map aY)] (ab [a,b,c])
    (fun v h=>∃k:Nat,True∧v=.slice 3 0 0 xs.length (some (xs.length+k))∧h=ab [a,b,c,dG ((xs++List.replicate k be).map aY)]):=by
  simp only[lP,List.map_replicate]
  have hn:xs.map aY≠[]:=fun h=>hne (List.map_eq_nil_iff.1 h)
  have hf:=YF xs
  have hsm:small (xs.map aY).length 120=true:=by grind[aD]
  have hlen:xs.length=(xs.map aY).length:=(bG ..).symm
  rw[hlen]
  generalize xs.map aY=L at hn hf hsm
  refine aL.enter 2 (fn:=Tryz.f224) Tryz.func224 (by kernel_rfl) rfl ⟨by kernel_rfl,by kernel_rfl⟩ ?_
  refine au.seq (au.mono (D8 oK fz (ev 40) (s':=⟨eW 8 [(0,.ls L),(2,.nils)],ab [a,b,c]⟩) (.go 0 .fin) (by kernel_rfl)) ?_)
  rintro _ _ ⟨rfl,rfl⟩
  refine au.seq (au.seq (au.mono (yQ fz (ev 40) (Ψ:=fun s=>s=⟨eW 8 [(0,.ls L),(2,.nils),(3,.ps L false),(4,.bool false)],ab [a,b,c]⟩) (.go 0 (.nz 3 .abs (.go 0 .fin)))
    (W:=(L=[]→False)∧(⟨eW 8 [(0,.ls L),(2,.nils),(3,.ps L false),(4,.bool false)],ab [a,b,c]⟩:St)=⟨eW 8 [(0,.ls L),(2,.nils),(3,.ps L false),(4,.bool false)],ab [a,b,c]⟩) ⟨hn,rfl⟩ (by kernel_rfl)) ?_))
  rintro _ _ ⟨rfl,rfl⟩
  refine au.cond (t:=false) (by kernel_rfl) (fun h=>by grind) fun _=>au.skip ?_
  refine au.seq (au.region ?_)
  show ch _ _ _ _ [_,_,_,_] _ _
  refine ch.one (s':=⟨eW 8 [(0,.ls L),(2,.nils),(3,.ps L false),(4,.bool false),(5,.ps [] true)],ab [a,b,c]⟩) (ev 40) (by kernel_rfl) ?_
  refine ch.one (s':=⟨eW 8 [(0,.ls L),(2,.nils),(3,.ps L false),(4,.bool false),(5,.ps [] true),(6,.ls L)],ab [a,b,c]⟩) (ev 40) (by kernel_rfl) ?_
  refine rC (I:=fun _=>True) (r:=fun k:Nat=>.slice 3 0 0 L.length (some (L.length+k))) (H:=fun k=>ab [a,b,c,.row 8 false 0 (L++List.replicate k (aY be))]) (by kernel_rfl)
    (fun pl M a w g1 g2 g3=>uP (z:=aY be) (z0:=zU) (xs:=L) (t:=36) (tx:=36) (e:=38) (i:=JI) H7 E9 (by kernel_rfl) ⟨38,by kernel_rfl⟩ Ot (by kernel_rfl) XC (by kernel_rfl) (by kernel_rfl) hn hf (by kernel_rfl) hsm (by omega) pl M a w g1 g2 g3) fun k _=>?_
  refine⟨eW 8 [(0,.ls L),(2,.nils),(3,.ps L false),(4,.bool false),(5,.ps [] true),(6,.ls L),(7,.slice 3 0 0 L.length (some (L.length+k)))],by kernel_rfl,?_⟩
  refine ch.one (s':=⟨eW 8 [(0,.ls L),(2,.slice 3 0 0 L.length (some (L.length+k))),(3,.ps L false),(4,.bool false),(5,.ps [] true),(6,.ls L),(7,.slice 3 0 0 L.length (some (L.length+k)))],ab [a,b,c,.row 8 false 0 (L++List.replicate k (aY be))]⟩) (ev 40) (by kernel_rfl) (ch.nil (au.ret ⟨fun id h=>(by grind),.slice 3 0 0 L.length (some (L.length+k)),by kernel_rfl,k,trivial,by kernel_rfl,by kernel_rfl⟩))
/-- The unit that a closure changes: its kids are 'K'. -/
noncomputable abbrev dF(u:TUnit)(K:AV):AObj:=.row 8 false 0 [.agg [iV u.act,iV u.item,iV u.n,iV u.kind,.str u.label,.ls (u.head.map aQ),.ls (u.words.map aQ),K]]
theorem XF(u:TUnit)(n c i:Nat)(R R':List AV)(hT:ax R=0)(hT2:ax R'=0)(hi:i<n)(hs:n≤2^20)(hD:kD 228 [.slice 1 0 0 n (some c),nV i,nV (i+1)] (ab [dF u (.slice 1 0 0 n (some c)),dG R]) (.slice 1 0 0 (n-1) (some c)) (ab [dF u (.slice 1 0 0 n (some c)),dG R'])):
    kD 227 [.ptr 0 0 0 0,.pptr [nV i] 0 0] (ab [dF u (.slice 1 0 0 n (some c)),dG R]) (.tuple []) (ab [dF u (.slice 1 0 0 (n-1) (some c)),dG R']):=by
  exact eS Tryz.func227 fun a=>Mg 6<|Ma (jq i)<|M3 (.efx false (aM 1 0 0 (n-1)<|some c)<|ab [aX 8 false 0 [aj [iV u.act,iV u.item,iV u.n,iV u.kind,aV u.label,aW<|u.head.map aQ,aW<|u.words.map aQ,aM 1 0 0 n<|some c]],aX 8 false 0 R']) (cZ (tR 8 false 0 2 (oA:ax (R)=0)) rt ti) ti hD<|Kf 2 a
theorem Wr(u x:TUnit)(n c i:Nat)(R R':List AV)(hT:ax R=0)(hT2:ax R'=0)(hD:kD 163 [.slice 1 0 0 n (some c),nV i,.ps [eU x] true] (ab [dF u (.slice 1 0 0 n (some c)),dG R]) (.slice 1 0 0 (n+1) (some c)) (ab [dF u (.slice 1 0 0 n (some c)),dG R'])):
    kD 162 [.ptr 0 0 0 0,.pptr [nV i] 0 0,.pptr [eU x] 0 0] (ab [dF u (.slice 1 0 0 n (some c)),dG R]) (.tuple []) (ab [dF u (.slice 1 0 0 (n+1) (some c)),dG R']):=by
  exact eS Tryz.func162 fun a=>Mg 7<|M3 (.efx false (aM 1 0 0 (n+1)<|some c)<|ab [aX 8 false 0 [aj [iV u.act,iV u.item,iV u.n,iV u.kind,aV u.label,aW<|u.head.map aQ,aW<|u.words.map aQ,aM 1 0 0 n<|some c]],aX 8 false 0 R']) (cZ (tR 8 false 0 2 (oA:ax (R)=0)) rt ti) ti hD<|Kf 2 a
theorem Wp(u x:TUnit)(n c i:Nat)(R Y:List AV)(hT:ax R=0)(hD:kD 163 [.slice 1 0 0 n (some c),nV i,.ps [eU x] true] (ab [dF u (.slice 1 0 0 n (some c)),dG R]) (.ls Y) (ab [dF u (.slice 1 0 0 n (some c)),dG R])):
    kD 162 [.ptr 0 0 0 0,.pptr [nV i] 0 0,.pptr [eU x] 0 0] (ab [dF u (.slice 1 0 0 n (some c)),dG R]) (.tuple []) (ab [dF u (.ls Y),dG R]):=by
  let q:=[aj [iV u.act,iV u.item,iV u.n,iV u.kind,aV u.label,aW (u.head.map aQ),aW (u.words.map aQ),aM 1 0 0 n (some c)]];exact eS Tryz.func162 fun a=>Mg 7<|M3 (.efx true (aW Y)<|ab [aX 8 false 0 q,aX 8 false 0 R]) (cZ (tR 8 false 0 2 (oA:ax (R)=0)) rt ti) (cZ (az<|some<|aX 8 false 0 R) (az<|some<|aX 8 false 0 q) ti) hD<|Kf 2 a
theorem Wo(u x:TUnit)(Y:List AV)(hD:kP 163 [.nils,iV 0,.ps [eU x] true] (.ls Y)):
    kD 162 [.ptr 0 0 0 0,.pptr [iV 0] 0 0,.pptr [eU x] 0 0] (ab [dF u .nils]) (.tuple []) (ab [dF u (.ls Y)]):=by
  exact eS Tryz.func162 fun a=>Kp 7 hD<|Kf 2 a
theorem Wn(u x:TUnit)(Y:List AV)(hD:kP 163 [(.ps [] true),iV 0,.ps [eU x] true] (.ls Y)):
    kD 162 [.ptr 0 0 0 0,.pptr [iV 0] 0 0,.pptr [eU x] 0 0] (ab [dF u (.ps [] true)]) (.tuple []) (ab [dF u (.ls Y)]):=by
  exact eS Tryz.func162 fun a=>Kp 7 hD<|Kf 2 a
theorem Wk(u x:TUnit)(n c i:Nat)(R R':List AV)(hT:ax R=0)(hT2:ax R'=0)(hD:kD 163 [.slice 1 0 0 n (some c),nV i,.ps [eU x] true] (ab [dF u (.slice 1 0 0 n (some c)),dG R]) (.slice 1 0 0 (n+1) (some c)) (ab [dF u (.slice 1 0 0 n (some c)),dG R'])):
    kD 173 [.ptr 0 0 0 0,.pptr [nV i] 0 0,.pptr [eU x] 0 0] (ab [dF u (.slice 1 0 0 n (some c)),dG R]) (.tuple []) (ab [dF u (.slice 1 0 0 (n+1) (some c)),dG R']):=by
  exact eS Tryz.func173 fun a=>Mg 7<|M3 (.efx false (aM 1 0 0 (n+1)<|some c)<|ab [aX 8 false 0 [aj [iV u.act,iV u.item,iV u.n,iV u.kind,aV u.label,aW<|u.head.map aQ,aW<|u.words.map aQ,aM 1 0 0 n<|some c]],aX 8 false 0 R']) (cZ (tR 8 false 0 2 (oA:ax (R)=0)) rt ti) ti hD<|Kf 2 a
theorem Wj(u x:TUnit)(n c i:Nat)(R Y:List AV)(hT:ax R=0)(hD:kD 163 [.slice 1 0 0 n (some c),nV i,.ps [eU x] true] (ab [dF u (.slice 1 0 0 n (some c)),dG R]) (.ls Y) (ab [dF u (.slice 1 0 0 n (some c)),dG R])):
    kD 173 [.ptr 0 0 0 0,.pptr [nV i] 0 0,.pptr [eU x] 0 0] (ab [dF u (.slice 1 0 0 n (some c)),dG R]) (.tuple []) (ab [dF u (.ls Y),dG R]):=by
  let q:=[aj [iV u.act,iV u.item,iV u.n,iV u.kind,aV u.label,aW (u.head.map aQ),aW (u.words.map aQ),aM 1 0 0 n (some c)]];exact eS Tryz.func173 fun a=>Mg 7<|M3 (.efx true (aW Y)<|ab [aX 8 false 0 q,aX 8 false 0 R]) (cZ (tR 8 false 0 2 (oA:ax (R)=0)) rt ti) (cZ (az<|some<|aX 8 false 0 R) (az<|some<|aX 8 false 0 q) ti) hD<|Kf 2 a
theorem Wx(u x:TUnit)(Y:List AV)(hD:kP 163 [.nils,iV 0,.ps [eU x] true] (.ls Y)):
    kD 173 [.ptr 0 0 0 0,.pptr [iV 0] 0 0,.pptr [eU x] 0 0] (ab [dF u .nils]) (.tuple []) (ab [dF u (.ls Y)]):=by
  exact eS Tryz.func173 fun a=>Kp 7 hD<|Kf 2 a
theorem Wz(u x:TUnit)(Y:List AV)(hD:kP 163 [(.ps [] true),iV 0,.ps [eU x] true] (.ls Y)):
    kD 173 [.ptr 0 0 0 0,.pptr [iV 0] 0 0,.pptr [eU x] 0 0] (ab [dF u (.ps [] true)]) (.tuple []) (ab [dF u (.ls Y)]):=by
  exact eS Tryz.func173 fun a=>Kp 7 hD<|Kf 2 a
theorem XD(u:TUnit)(l:List PWord):kD 166 [.ptr 0 0 0 0,.pptr [.ls (l.map aQ)] 0 0] (ab [dF u (.ls (u.kids.map aY))]) (.tuple []) (ab [dF (l8 l u) (.ls (u.kids.map aY))]):=by
  exact eS Tryz.func166 fun a=>Kf 4 a
theorem YU(u:TUnit)(l:List PWord):kD 168 [.ptr 0 0 0 0,.pptr [.ls (l.map aQ)] 0 0] (ab [dF u (.ls (u.kids.map aY))]) (.tuple []) (ab [dF (l8 l u) (.ls (u.kids.map aY))]):=by
  exact eS Tryz.func168 fun a=>Kf 4 a
theorem YA(u:TUnit)(l:List PWord):kD 170 [.ptr 0 0 0 0,.pptr [.ls (l.map aQ)] 0 0] (ab [dF u (.ls (u.kids.map aY))]) (.tuple []) (ab [dF (AJ l u) (.ls (u.kids.map aY))]):=by
  exact eS Tryz.func170 fun a=>Kf 4 a
theorem YV(u:TUnit)(d:PDeed):kD 172 [.ptr 0 0 0 0,.pptr [aq d] 0 0] (ab [dF u (.ls (u.kids.map aY))]) (.tuple []) (ab [dF (pW d.it.label u) (.ls (u.kids.map aY))]):=by
  exact eS Tryz.func172 fun a=>Kf 6 a
noncomputable abbrev vi(p:PId):AObj:=.row 3 false 0 [aU p]
noncomputable abbrev zO:AObj:=.row 8 false 0 [zU]
theorem Hv:kP 224 [.nils] .nils:=by
  exact wk Tryz.func224 (.go 4 .fin)<|bZ ah
theorem Hw:kP 224 [.ps [] false] (.ps [] true):=by
  exact wk Tryz.func224 (.go 7 .fin)<|bZ<|jJ [] true
theorem Rm(w:TUnit)(r:List TUnit)(hl:r.length<2^20):kP 224 [.ls ((w::r).map aY)] (.ls ((w::r).map aY)):=by
  let q:=List.map aY (w::r);exact bD Tryz.func224<|Mg 1<|Mz 3 (fun(a:((w::r).map aY:List AV)=[])=>Mw .abs<|nT _ _ a)<|Mg 3<|M2 .apl (et (sA:List.map aY (w::r)≠[])<|fp (sz:=8) (f:=aY) (fun _=>by(rw[aO];rfl))<|w::r) (by(refine aD (m:=2^21) ?_ ?_ ?_<;>first|omega|grind):small ((w::r).map aY).length 120=true)<|Mg 0<|M2 (.fsl 0 [] 2 q) ti (cZ (az 0) (tA aY (w::r) q.length (sA:(w::r).length=((w::r).map aY).length))<|aZ iZ<|w::r)<|Ml 2 (eX q false<|aZ iZ<|w::r)<|Mf<|bZ<|aW q
theorem C5(l:List TUnit)(hl:l.length≤2^20):kP 224 [.ls (l.map aY)] (.ls (l.map aY)):=by
  cases l with
  |nil=>exact ar.ls0 (Hv.less Le.nils) (Hw.lessB (u:=.ls []) (by kernel_rfl))
  |cons w r=>grind[Rm]
/-- The unit is found; its kids stay what they are. -/
theorem yU(g:Nat)(bs:List AV)(p:PId)(u u2:TUnit)(hA:ax [eU u,aU p,.func (.func g) [] bs]=0)(hp:(al u.act p.a&&(al u.item p.i&&al u.n p.n))=true)(hl:u.kids.length≤2^20)(hd:kD g (.ptr 0 0 0 0::bs) (ab [dF u (.ls (u.kids.map aY)),vi p,zO]) (.tuple []) (ab [dF u2 (.ls (u2.kids.map aY)),vi p,zO])):kP 161 [eU u,aU p,.func (.func g) [] bs] (eU u2):=by
  have hc:=C5 u.kids hl
  let q:=[iV p.a,iV p.i,iV p.n];exact bD (ht:=oA) Tryz.func161<|Kv 5 (lz ((Tryz.prog).underlying 34) u.act u.item u.n p.a p.i p.n<|ab [aX 8 false 0 [aj [iV u.act,iV u.item,iV u.n,iV u.kind,aV u.label,aW<|u.head.map aQ,aW<|u.words.map aQ,aW<|u.kids.map aY]],aX 3 false 0 [aj q],aX 8 false 0 [aj [iV 0,iV 0,iV 0,iV 0,aV [],ah,ah,ah]]])<|Mt hp<|Kp 1 hc<|Ke 2 hd<|Kf 1<|bZ<|aj [iV u2.act,iV u2.item,iV u2.n,iV u2.kind,aV u2.label,aW<|u2.head.map aQ,aW<|u2.words.map aQ,aW<|u2.kids.map aY]
/-- The unit is found; it has kids; in its own row something is done. -/
theorem T3(g:Nat)(bs:List AV)(p:PId)(u u2:TUnit)(n2:Nat)(Z:Nat→List AV)(hA:ax [eU u,aU p,.func (.func g) [] bs]=0)(hp:(al u.act p.a&&(al u.item p.i&&al u.n p.n))=true)(hl:u.kids.length≤2^20)(hne:u.kids≠[])(hn2:u2.kids.length=n2)(hd:∀k,kD g (.ptr 0 0 0 0::bs) (ab [dF u (.slice 3 0 0 u.kids.length (some (u.kids.length+k))),vi p,zO,dG ((u.kids++List.replicate k be).map aY)]) (.tuple []) (ab [dF u2 (.slice 3 0 0 n2 (some (u.kids.length+k))),vi p,zO,dG (u2.kids.map aY++Z k)])):kP 161 [eU u,aU p,.func (.func g) [] bs] (eU u2):=by
  let q:=[aj [iV u.act,iV u.item,iV u.n,iV u.kind,aV u.label,aW (u.head.map aQ),aW (u.words.map aQ),aW (u.kids.map aY)]];let q1:=[iV p.a,iV p.i,iV p.n];let q2:=[aj [iV 0,iV 0,iV 0,iV 0,aV [],ah,ah,ah]];let q3:=List.map aY u2.kids;exact bD (ht:=oA) Tryz.func161<|Kv 5 (lz ((Tryz.prog).underlying 34) u.act u.item u.n p.a p.i p.n<|ab [aX 8 false 0 q,aX 3 false 0 [aj q1],aX 8 false 0 q2])<|Mt hp<|Mg 1<|Mq (Ed u.kids hne hl (aX 8 false 0 q) (aX 3 false 0 [aj q1])<|aX 8 false 0 q2) fun a _=>Ke 2 (hd a)<|M2 (.fza 0 7 3 [3,6] q3) (jX rt rt rt ti) (cZ (az 0) (VZ (xs:=List.map aY u2.kids) (ys:=Z a) (n:=n2) sA)<|aZ iZ u2.kids)<|Kf 1<|bZ<|aj [iV u2.act,iV u2.item,iV u2.n,iV u2.kind,aV u2.label,aW<|u2.head.map aQ,aW<|u2.words.map aQ,aW q3]
theorem T9{l m:List TUnit}{i:Nat}(h:i<l.length):gD (l++m) i=gD l i:=by
  grind[gD]
theorem td{l m:List TUnit}{i n:Nat}{x:TUnit}(h:l.length=n)(hi:i<n):((l++m).set i x).take n=l.set i x:=by
  simp_all
theorem SQ{l m:List TUnit}{n:Nat}(h:l.length=n):(l++m).take n=l:=by simp_all
theorem Lk{l:List TUnit}{i:Nat}(h:i<l.length):l.drop i=gD l i::l.drop (i+1):=by
  grind[List.drop_eq_getElem_cons,gD]
theorem XI{p:PId}{f:TUnit→TUnit}{l:List TUnit}{i:Nat}(h:jW p f l i (l.drop i))(hi:l.length≤i):ef p f l=l:=by
  grind[List.drop_eq_nil_of_le,jW.done]
theorem XG{p:PId}{f:TUnit→TUnit}{l:List TUnit}{i:Nat}(h:jW p f l i (l.drop i))(hi:i<l.length)(hw:cj p (gD l i)=false):jW p f l (i+1) (l.drop (i+1)):=by
  grind[Lk,jW.skip]
theorem XH{p:PId}{f:TUnit→TUnit}{l:List TUnit}{i:Nat}(h:jW p f l i (l.drop i))(hi:i<l.length)(hw:cj p (gD l i)=true):ef p f l=l.set i (dV p f (gD l i)):=by
  grind[Lk,jW.hit]
/-- The unit is another one without kids. -/
theorem Yl(g:Nat)(bs:List AV)(p:PId)(u:TUnit)(hA:ax [eU u,aU p,.func (.func g) [] bs]=0)(hA2:(AV.func (.func g) [] bs).top=0)(hp:(al u.act p.a&&(al u.item p.i&&al u.n p.n))=false)(h0:u.kids.length=0)(hl0:aF 0 (Int.ofNat u.kids.length)=false):kP 161 [eU u,aU p,.func (.func g) [] bs] (eU u):=by
  have hc:=C5 u.kids (by omega)
  let q:=[aX 8 false 0 [aj [iV u.act,iV u.item,iV u.n,iV u.kind,aV u.label,aW (u.head.map aQ),aW (u.words.map aQ),aW (u.kids.map aY)]],aX 3 false 0 [aj [iV p.a,iV p.i,iV p.n]],aX 8 false 0 [aj [iV 0,iV 0,iV 0,iV 0,aV [],ah,ah,ah]]];let q1:=[bw (bj g) [] bs,bz 0 0 0 0,bz 1 0 0 0,bz 2 0 0 0,aW (u.kids.map aY),aW (u.kids.map aY),nV u.kids.length,iV 0];exact bD (ht:=oA) Tryz.func161<|Kv 5 (lz ((Tryz.prog).underlying 34) u.act u.item u.n p.a p.i p.n<|ab q)<|Mh hp<|Kp 1 hc<|Kl 2 27 (ln aY u.kids)<|Mg 0<|Zj [2,3,4,6,7,26,27,28] (q1,q) True 0 ti fun _ _=>Kh 0 hl0<|Kf 4<|bZ<|aj [iV u.act,iV u.item,iV u.n,iV u.kind,aV u.label,aW<|u.head.map aQ,aW<|u.words.map aQ,aW<|u.kids.map aY]
/-- The unit is another: what is done below. -/
theorem Yi(g:Nat)(bs:List AV)(p:PId)(f:TUnit→TUnit)(u:TUnit)(hA:ax [eU u,aU p,.func (.func g) [] bs]=0)(hA2:(AV.func (.func g) [] bs).top=0)(hp:(al u.act p.a&&(al u.item p.i&&al u.n p.n))=false)(hne:u.kids≠[])(hn:u.kids.length≤2^20)
    (hf:∀k,k∈u.kids→kP 62 [eU k,aU p] (.tuple [eU (ee p k),.bool (cj p k)]))
    (ih:∀k,k∈u.kids→kP 161 [eU k,aU p,.func (.func g) [] bs] (eU (dV p f k))):kP 161 [eU u,aU p,.func (.func g) [] bs] (eU (jr u (ef p f u.kids))):=by
  have rr0:∀b',(h:(List.map aY (jr u (ef p f u.kids)).kids)=b':=by first|rfl|(rw[XH hx0.2 (by(first|omega|(simp only[oN]at *;omega))) (by rw[←q0 (by(first|omega|(simp only[oN]at *;omega)))];assumption),q0 (by(first|omega|(simp only[oN]at *;omega)))];exact congrArg _ (td rfl (by(first|omega|(simp only[oN]at *;omega)))).symm)|(rw[XI hx0.2 (by(first|omega|(simp only[oN]at *;omega)))];exact congrArg _ (SQ rfl).symm))→(List.map aY (jr u (ef p f u.kids)).kids)=b':=(fun _ h=>h);exact bD (ht:=oA) Tryz.func161<|Kv 5 (lz ((Tryz.prog).underlying 34) u.act u.item u.n p.a p.i p.n<|ab [aX 8 false 0 [aj [iV u.act,iV u.item,iV u.n,iV u.kind,aV u.label,aW<|u.head.map aQ,aW<|u.words.map aQ,aW<|u.kids.map aY]],aX 3 false 0 [aj [iV p.a,iV p.i,iV p.n]],aX 8 false 0 [aj [iV 0,iV 0,iV 0,iV 0,aV [],ah,ah,ah]]])<|Mh hp<|Mg 1<|Mq (Ed u.kids hne hn (aX 8 false 0 [aj [iV u.act,iV u.item,iV u.n,iV u.kind,aV u.label,aW<|u.head.map aQ,aW<|u.words.map aQ,aW<|u.kids.map aY]]) (aX 3 false 0 [aj [iV p.a,iV p.i,iV p.n]])<|aX 8 false 0 [aj [iV 0,iV 0,iV 0,iV 0,aV [],ah,ah,ah]]) fun a _=>Mg 3<|MO1 (0:Nat) [2,3,4,6,7,26,27,28] (fun b=>([bw (bj g) [] bs,bz 0 0 0 0,bz 1 0 0 0,bz 2 0 0 0,aM 3 0 0 u.kids.length<|some<|u.kids.length+a,aM 3 0 0 u.kids.length<|some<|u.kids.length+a,nV u.kids.length,nV b],[aX 8 false 0 [aj [iV u.act,iV u.item,iV u.n,iV u.kind,aV u.label,aW<|u.head.map aQ,aW<|u.words.map aQ,aW<|u.kids.map aY]],aX 3 false 0 [aj [iV p.a,iV p.i,iV p.n]],aX 8 false 0 [aj [iV 0,iV 0,iV 0,iV 0,aV [],ah,ah,ah]],aX 8 false 0<|(u.kids++List.replicate a be).map aY])) (fun a=>a≤u.kids.length∧jW p f u.kids a (u.kids.drop a)) (fun a=>u.kids.length-a) (by simp_all[jW.start]) fun b hx0 c=>have hx0:b≤u.kids.length∧jW p f u.kids b (u.kids.drop b):=hx0;have q0:b<u.kids.length→gD (u.kids++List.replicate a be) b=gD u.kids b:=fun h=>T9 h;Ka 0 (Int.ofNat b) (Int.ofNat u.kids.length) (fun _ _=>K1 0 .rix (et (az 0) (sA:b<u.kids.length))<|Mr (et (az 0)<|rY aY (g:=Go.Ev.eU) aO (gR:b<(u.kids++List.replicate a be).length))<|Kp 4 (hf (gD (u.kids++List.replicate a be) b)<|by grind[iC])<|Kb 6 (cj p<|gD (u.kids++List.replicate a be) b) (fun _=>Kp 4 (ih (gD (u.kids++List.replicate a be) b)<|by grind[iC])<|M1 .rix (et (az 0) (sA:b<u.kids.length))<|M1 (.rst (aj [iV (gD (u.kids++List.replicate a be) b).act,iV (gD (u.kids++List.replicate a be) b).item,iV (gD (u.kids++List.replicate a be) b).n,iV (gD (u.kids++List.replicate a be) b).kind,aV (gD (u.kids++List.replicate a be) b).label,aW<|List.map aQ (gD (u.kids++List.replicate a be) b).head,aW<|List.map aQ (gD (u.kids++List.replicate a be) b).words,aW<|List.map aY (gD (u.kids++List.replicate a be) b).kids])<|((u.kids++List.replicate a be).set b<|dV p f<|gD (u.kids++List.replicate a be) b).map aY) (cZ (az 0) (rY aY (g:=Go.Ev.eU) aO (gR:b<(u.kids++List.replicate a be).length))<|Dg (f:=aY) (g:=Go.Ev.eU) aO (l:=u.kids++List.replicate a be) (i:=b) (w:=dV p f<|gD (u.kids++List.replicate a be) b))<|Mg 0<|M2 (.fsl 3 [3,6] 48<|(((u.kids++List.replicate a be).set b<|dV p f<|gD (u.kids++List.replicate a be) b).take u.kids.length).map aY) (jX rt rt rt ti) (cZ (az 0) (wi (f:=aY) (l:=(u.kids++List.replicate a be).set b<|dV p f<|gD (u.kids++List.replicate a be) b) (n:=u.kids.length))<|aZ iZ<|((u.kids++List.replicate a be).set b<|dV p f<|gD (u.kids++List.replicate a be) b).take u.kids.length)<|Ml 48 (eX ((((u.kids++List.replicate a be).set b<|dV p f<|gD (u.kids++List.replicate a be) b).take u.kids.length).map aY) (oW (some<|u.kids.length+a)<|some u.kids.length)<|aZ iZ<|((u.kids++List.replicate a be).set b<|dV p f<|gD (u.kids++List.replicate a be) b).take u.kids.length)<|Kf 3 (aT (.cons (bZ _)<|.cons (bZ _)<|.cons (bZ _)<|.cons (bZ _)<|.cons (bZ _)<|.cons (bZ _)<|.cons (bZ _)<|.cons (bR<|rr0<|(((u.kids++List.replicate a be).set b<|dV p f<|gD (u.kids++List.replicate a be) b).take u.kids.length).map aY) .nil)<|by kernel_rfl:Le _ (AV.agg [iV u.act,iV u.item,iV u.n,iV u.kind,AV.str u.label,AV.ls (u.head.map aQ),AV.ls (u.words.map aQ),AV.ls ((((u.kids++List.replicate a be).set b (dV p f (gD (u.kids++List.replicate a be) b))).take u.kids.length).map aY)]))) fun _=>Kl 0 47 (jq b)<|Mg 0<|M2 (.frl 4 [3,4,6,7,26,27,28] [2]) (xr (OG (sz:=8) (op:=false) (ep:=0) (n:=4)<|aZ iZ<|u.kids++List.replicate a be) rt rt rt ti) (et (oA:(AV.func (Fn.func g) [] bs).top≤4) ti)<|Mf<|c (b+1) (by grind[XG]) gR) fun _ _=>Mg 0<|M2 (.fsl 3 [3,6] 48<|((u.kids++List.replicate a be).take u.kids.length).map aY) (jX rt rt rt ti) (cZ (az 0) (wi (f:=aY) (l:=u.kids++List.replicate a be) (n:=u.kids.length))<|aZ iZ<|(u.kids++List.replicate a be).take u.kids.length)<|Ml 48 (eX (((u.kids++List.replicate a be).take u.kids.length).map aY) (oW (some<|u.kids.length+a)<|some u.kids.length)<|aZ iZ<|(u.kids++List.replicate a be).take u.kids.length)<|Kf 3 (aT (.cons (bZ _)<|.cons (bZ _)<|.cons (bZ _)<|.cons (bZ _)<|.cons (bZ _)<|.cons (bZ _)<|.cons (bZ _)<|.cons (bR<|rr0<|((u.kids++List.replicate a be).take u.kids.length).map aY) .nil)<|by kernel_rfl:Le _ (AV.agg [iV u.act,iV u.item,iV u.n,iV u.kind,AV.str u.label,AV.ls (u.head.map aQ),AV.ls (u.words.map aQ),AV.ls (((u.kids++List.replicate a be).take u.kids.length).map aY)]))
theorem iW{g:Nat}{bs:List AV}{p:PId}(hb:ax bs=0)(x:TUnit):ax [eU x,aU p,.func (.func g) [] bs]=0:=by
  have h1:(eU x).top=0:=by rw[←aO];exact iZ x
  have h2:(AV.func (.func g) [] bs).top=0:=by simp only[AV.top,ax,hb];rfl
  exact jT.2 fun y hy=>by
    simp only[fD,List.mem_nil_iff,or_false]at hy
    rcases hy with rfl|rfl|rfl
    · omega
    · exact Jq p
    omega
/-- with: the first unit of the number is changed, wherever it stands. -/
theorem oC(g:Nat)(bs:List AV)(p:PId)(f:TUnit→TUnit)(hb:ax bs=0):∀(u:TUnit),nU u≤2^19→(∀x,x∈bp u→x.head.length<2^30∧x.words.length<2^30)→
    (∀v,v∈bp u→fL p v=true→kP 161 [eU v,aU p,.func (.func g) [] bs] (eU (f v)))→kP 161 [eU u,aU p,.func (.func g) [] bs] (eU (dV p f u)):=by
  refine TUnit.ind fun u ih hn ht hit=>?_
  have hA:=iW (g:=g) (bs:=bs) (p:=p) hb
  cases hi:fL p u with
  |true=>grind[qO,dz]
  | false=>
    have hkl:=bf u
    rw[kp hi]
    by_cases h0:u.kids=[]
    · have e:jr u (ef p f u.kids)=u:=by rw[h0,sy];cases u;simp only[TUnit.kids]at h0;subst h0;rfl
      rw[e]
      exact Yl g bs p u (hA u) (by simp only[AV.top,ax,hb];rfl) hi (by simp_all) (by rw[h0];rfl)
    · exact Yi g bs p f u (hA u) (by simp only[AV.top,ax,hb];rfl) hi h0 (by omega) (fun k hk=>QT p k (by have:=iz hk;omega) fun x hx=>ht x (bA hk hx))
        fun k hk=>ih k hk (by have:=iz hk;omega) (fun x hx=>ht x (bA hk hx)) fun v hv=>hit v (bA hk hv)
theorem A6{bs:List AV}(rs:List Nat)(h0:fN rs 0=0)(hb:ax bs=0):lE (fN rs) (.ptr 0 0 0 0::bs)=.ptr 0 0 0 0::bs:=by
  grind[lE,Ev.ren,e9]
theorem Ao{g:Nat}{bs:List AV}{u u2:TUnit}{n n2 c:Nat}{X X2:List AV}{A B:AObj}(hb:ax bs=0)(hX:ax X=0)(hX2:ax X2=0)(h:kD g (.ptr 0 0 0 0::bs) (ab [dF u (.slice 1 0 0 n (some c)),dG X]) (.tuple []) (ab [dF u2 (.slice 1 0 0 n2 (some c)),dG X2])):
    kD g (.ptr 0 0 0 0::bs) (ab [dF u (.slice 3 0 0 n (some c)),A,B,dG X]) (.tuple []) (ab [dF u2 (.slice 3 0 0 n2 (some c)),A,B,dG X2]):=
  pd fz [0,3] h (A6 _ rfl hb) rfl rfl ⟨⟨rfl,vJ (by kernel_rfl)⟩,⟨rfl,by show ax X≤2;omega⟩,trivial⟩ ⟨⟨rfl,vJ (by kernel_rfl)⟩,⟨rfl,by show ax X2≤2;omega⟩,trivial⟩
    (by show Nat.mx _ (ax bs)≤2;rw[hb];exact vJ (by kernel_rfl)) (bM _) ⟨by kernel_rfl,by rw[vd hX];kernel_rfl,trivial⟩ ⟨by kernel_rfl,by kernel_rfl,trivial⟩
    (by show _=AHeap.put (AHeap.put _ _ _) _ (j8 _ (.row 8 false 0 X2));rw[vd hX2];kernel_rfl)
theorem C0{g:Nat}{bs:List AV}{u u2:TUnit}{n c:Nat}{X Y:List AV}{A B:AObj}(hb:ax bs=0)(hX:ax X=0)(h:kD g (.ptr 0 0 0 0::bs) (ab [dF u (.slice 1 0 0 n (some c)),dG X]) (.tuple []) (ab [dF u2 (.ls Y),dG X])):
    kD g (.ptr 0 0 0 0::bs) (ab [dF u (.slice 3 0 0 n (some c)),A,B,dG X]) (.tuple []) (ab [dF u2 (.ls Y),A,B,dG X]):=
  pd fz [0,3] h (A6 _ rfl hb) rfl rfl ⟨⟨rfl,vJ (by kernel_rfl)⟩,⟨rfl,by show ax X≤2;omega⟩,trivial⟩ ⟨⟨rfl,vJ (by kernel_rfl)⟩,⟨rfl,by show ax X≤2;omega⟩,trivial⟩
    (by show Nat.mx _ (ax bs)≤2;rw[hb];exact vJ (by kernel_rfl)) (bM _) ⟨by kernel_rfl,by rw[vd hX];kernel_rfl,trivial⟩ ⟨by kernel_rfl,by kernel_rfl,trivial⟩
    (by show _=AHeap.put (AHeap.put _ _ _) _ (j8 _ (.row 8 false 0 X));rw[vd hX];kernel_rfl)
theorem jM{g:Nat}{bs:List AV}{u u2:TUnit}{A B:AObj}{K K2:AV}(hb:ax bs=0)(h1:ax [.agg [iV u.act,iV u.item,iV u.n,iV u.kind,.str u.label,.ls (u.head.map aQ),.ls (u.words.map aQ),K]]=0)(h2:ax [.agg [iV u2.act,iV u2.item,iV u2.n,iV u2.kind,.str u2.label,.ls (u2.head.map aQ),.ls (u2.words.map aQ),K2]]=0)(h:kD g (.ptr 0 0 0 0::bs) (ab [dF u K]) (.tuple []) (ab [dF u2 K2])):
    kD g (.ptr 0 0 0 0::bs) (ab [dF u K,A,B]) (.tuple []) (ab [dF u2 K2,A,B]):=
  fw fz 0 h1 h2 h (A6 _ rfl hb) rfl rfl (by simp only[ax,AV.top,hb];rfl) rfl (by kernel_rfl) (by kernel_rfl)
/-- The unit is found; it has kids; a kid more is laid into its row, or into a new one. -/
theorem LZ(g:Nat)(bs:List AV)(p:PId)(u u2:TUnit)(n2:Nat)(Z:Nat→List AV)(hA:ax [eU u,aU p,.func (.func g) [] bs]=0)(hp:(al u.act p.a&&(al u.item p.i&&al u.n p.n))=true)(hl:u.kids.length≤2^20)(hne:u.kids≠[])(hn2:u2.kids.length=n2)
    (hdA:∀k,By (Nat.beq k 0) true→kD g (.ptr 0 0 0 0::bs) (ab [dF u (.slice 3 0 0 u.kids.length (some (u.kids.length+k))),vi p,zO,dG ((u.kids++List.replicate k be).map aY)]) (.tuple []) (ab [dF u2 (.ls (u2.kids.map aY)),vi p,zO,dG ((u.kids++List.replicate k be).map aY)]))
    (hdB:∀k,By (Nat.beq k 0) false→kD g (.ptr 0 0 0 0::bs) (ab [dF u (.slice 3 0 0 u.kids.length (some (u.kids.length+k))),vi p,zO,dG ((u.kids++List.replicate k be).map aY)]) (.tuple []) (ab [dF u2 (.slice 3 0 0 n2 (some (u.kids.length+k))),vi p,zO,dG (u2.kids.map aY++Z k)])):kP 161 [eU u,aU p,.func (.func g) [] bs] (eU u2):=by
  let q:=aj [iV u2.act,iV u2.item,iV u2.n,iV u2.kind,aV u2.label,aW (u2.head.map aQ),aW (u2.words.map aQ),aW (u2.kids.map aY)];let q1:=[aj [iV u.act,iV u.item,iV u.n,iV u.kind,aV u.label,aW (u.head.map aQ),aW (u.words.map aQ),aW (u.kids.map aY)]];let q2:=[iV p.a,iV p.i,iV p.n];let q3:=[aj [iV 0,iV 0,iV 0,iV 0,aV [],ah,ah,ah]];exact bD (ht:=oA) Tryz.func161<|Kv 5 (lz ((Tryz.prog).underlying 34) u.act u.item u.n p.a p.i p.n<|ab [aX 8 false 0 q1,aX 3 false 0 [aj q2],aX 8 false 0 q3])<|Mt hp<|Mg 1<|Mq (Ed u.kids hne hl (aX 8 false 0 q1) (aX 3 false 0 [aj q2])<|aX 8 false 0 q3) fun a _=>Ks 2 (a.beq 0) (fun b=>Me (hdA a b)<|Kf 1<|bZ q) fun b=>Me (hdB a b)<|M2 (.fza 0 7 3 [3,6]<|u2.kids.map aY) (jX rt rt rt ti) (cZ (az 0) (VZ (xs:=List.map aY u2.kids) (ys:=Z a) (n:=n2) sA)<|aZ iZ u2.kids)<|Kf 1<|bZ q
/-- The unit is found; it has no kids; it gets one. -/
theorem LX(g:Nat)(bs:List AV)(p:PId)(u u2:TUnit)(hA:ax [eU u,aU p,.func (.func g) [] bs]=0)(hp:(al u.act p.a&&(al u.item p.i&&al u.n p.n))=true)(h0:u.kids=[])
    (hdN:kD g (.ptr 0 0 0 0::bs) (ab [dF u .nils,vi p,zO]) (.tuple []) (ab [dF u2 (.ls (u2.kids.map aY)),vi p,zO]))
    (hdP:kD g (.ptr 0 0 0 0::bs) (ab [dF u (.ps [] true),vi p,zO]) (.tuple []) (ab [dF u2 (.ls (u2.kids.map aY)),vi p,zO])):kP 161 [eU u,aU p,.func (.func g) [] bs] (eU u2):=by
  obtain⟨a,i,n,k,l,h,w,ks⟩:=u
  simp only[TUnit.kids]at h0
  subst h0
  let q:=aj [iV u2.act,iV u2.item,iV u2.n,iV u2.kind,aV u2.label,aW (u2.head.map aQ),aW (u2.words.map aQ),aW (u2.kids.map aY)];let q1:=[iV p.a,iV p.i,iV p.n];exact bD (ht:=oA) Tryz.func161<|Kv 5 (lz ((Tryz.prog).underlying 34) (TUnit.mk a i n k l h w []).act (TUnit.mk a i n k l h w []).item (TUnit.mk a i n k l h w []).n p.a p.i p.n<|ab [aX 8 false 0 [aj [iV (TUnit.mk a i n k l h w []).act,iV (TUnit.mk a i n k l h w []).item,iV (TUnit.mk a i n k l h w []).n,iV (TUnit.mk a i n k l h w []).kind,aV l,aW<|List.map aQ (TUnit.mk a i n k l h w []).head,aW<|List.map aQ (TUnit.mk a i n k l h w []).words,aW []]],aX 3 false 0 [aj q1],aX 8 false 0 [aj [iV 0,iV 0,iV 0,iV 0,aV [],ah,ah,ah]]])<|Mt hp<|Mg 1<|Mz 17 (fun(_:([]:List AV)=[])=>Mp Hv<|Ke 2 hdN<|Kf 1<|bZ q)<|Mp Hw<|Ke 2 hdP<|Kf 1<|bZ q
end Go.Proofs.YtaepacpodblomaaGreatDoor
