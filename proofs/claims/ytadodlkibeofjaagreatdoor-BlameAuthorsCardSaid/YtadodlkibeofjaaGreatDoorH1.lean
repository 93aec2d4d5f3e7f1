/- Functions walked: what each of them answers, for the law that a unit's authors are among its contributors: part 1. Conditions: those that each theorem names. -/
import Derived.Test.YtadodlkibeofjaaGreatDoorCmb
import Derived.Test.YtadodlkibeofjaaGreatDoorLay
import Derived.Test.YtadodlkibeofjaaGreatDoorLay2
import Derived.Test.YtadodlkibeofjaaGreatDoorLay3
namespace Go.Proofs.YtadodlkibeofjaaGreatDoor
open Go Go.Ev
noncomputable abbrev cb:=@Le.bool
noncomputable abbrev aW:=@AV.ls
noncomputable abbrev ak:=@AV.agg
noncomputable abbrev aj:=@AV.str
noncomputable abbrev bj:=@AV.func
noncomputable abbrev bx:=@Fn.func
noncomputable abbrev eP:=@Le.ps
noncomputable abbrev j9:=@AV.ps
noncomputable abbrev bw:=@Le.refl
noncomputable abbrev eO:=@AV.bool
noncomputable abbrev cL:=@Le.tuple
noncomputable abbrev cK:=@AV.tuple
noncomputable abbrev ab:=@AV.nils
noncomputable abbrev aZ:=@AObj.row
noncomputable abbrev fg:=@Le.of_eq
noncomputable abbrev bX:=@AV.ptr
noncomputable abbrev aI:=@AV.slice
noncomputable abbrev bD:=@Le.nils
noncomputable abbrev abu:=@ARes.val
noncomputable def qf(x:PWord):Bool:=ax (aB 100 (.ofNat x.text.length))
noncomputable def mP(ws:List PWord):Bool:=ws.all qf&&ax (aB 300 (.ofNat ws.length))
theorem HQ(x:Int):kP 129 [iV x] (.bool false):=by
  have rr0 b' (h:(false)=b':=by simp[bQ]):=h;exact wk Tryz.func129 (.go 4 .fin)<|cb<|rr0<|ax<|ay x x
theorem pu(x y:Int):kP 92 [iV x,iV y] (iV (kQ x y)):=by
  have rr0 b' (h:(kQ x y)=b':=by simp[kQ, *]):=h;exact bp Tryz.func92<|Kp 1 (HQ x)<|Kp 1 (HQ y)<|Kb 7 (aB x y) (fun _=>Kf 0<|li<|rr0 (-1)) fun _=>Kb 2 (aB y x) (fun _=>Kf 0<|li<|rr0 1) fun _=>Kf 0<|li<|rr0 0
theorem GV(ws:List PWord)(hl:ws.length<2^60):kP 135 [.ls (ws.map aQ)] (.bool (mP ws)):=by
  have rr0 b' (h:(mP ws)=b':=by simp only[mP,qf,aS,ax,bS, *]):=h;exact bp Tryz.func135<|Mg 1<|td aQ ws [0,3] (fun a _=>([aW<|ws.map aQ,nV a],[])) (fun a=>ws.all qf=a.all qf) (by rfl) (fun _ _ _ _ _ a _=>Kl 2 6 (ln aQ ws)<|Kh 0 a<|Kl 1 18 (ln aQ ws)<|Kf 1<|cb<|rr0<|ax<|aB 300<|Int.ofNat ws.length) fun a _ _ _ b c d _ e _ f _=>Kl 2 6 (ln aQ ws)<|Kt 0 e<|Kx 1 f<|Ka 3 100 (Int.ofNat<|List.length b.text) (fun _ _=>Ky 0<|rr0 false) fun _ _=>Kl 1 9 (dt a)<|Kf 0<|d<|by simp_all[qf]
mutual
noncomputable def kS:TUnit->Bool
  |⟨_,_,_,_,label,h,w,kids⟩=>ax (aB 30 (.ofNat label.length))&&mP h&&mP w&&yP kids
noncomputable def yP:List TUnit->Bool
  |[]=>true
  |u::r=>kS u&&yP r
end
theorem Ca:∀(l:List TUnit),yP l=l.all kS
  |[]=>by rw[yP];rfl
  |u::r=>by rw[yP,Ca r];rfl
theorem Cb(u:TUnit):kS u=(ax (aB 30 (.ofNat u.label.length))&&mP u.head&&mP u.words&&u.kids.all kS):=by
  obtain⟨a,b,c,d,e,f,g,h⟩:=u
  rw[kS,Ca];rfl
theorem PA:∀(u:TUnit),tV u->kP 100 [eU u] (.bool (kS u)):=by
  refine TUnit.ind fun u ih hf=>?_
  obtain⟨f1,f2,f3,f4⟩:=qP.1 hf
  have rr0 b' (h:(kS u)=b':=by rw[Cb];simp only[aS,ax,bS, *]):=h;exact bp Tryz.func100<|Ka 6 30 (Int.ofNat<|List.length u.label) (fun a _=>Mt a<|Mt a<|Mt a<|MV a<|Ky 3<|rr0 false) fun a _=>Kh 0 a<|Kh 0 a<|Mp (GV u.head f1)<|Mh a<|Kw 0 a<|Kn 0 (mP u.head) (fun a=>Mt (cS a)<|Mt (cS a)<|Mt (cS a)<|MV (cS a)<|Ky 1<|rr0 false) fun a=>Kh 0 (cE a)<|Kh 0 (cE a)<|Mp (GV u.words f2)<|Mh (cE a)<|Kw 0 (cE a)<|Mn (mP u.words) (fun _=>Ky 0<|rr0 false) fun _=>K1 0 (.frz 0 [1,3]) ti<|td aY u.kids [1,3] (fun a _=>([AV.pptr [ak (uLx u)] 0 0,nV a],[])) (fun a=>u.kids.all kS=a.all kS) (by rfl) (fun _ _ _ _ _ a _=>Kl 3 23 (ln aY u.kids)<|Kh 0 a<|Ky 0<|rr0 true) fun a _ b _ c d e f g _ i _=>have i:=i.trans<|congrArg some<|aO c;Kl 3 23 (ln aY u.kids)<|Kt 0 g<|Kx 2 i<|Kp 0 (ih c (by exact aN b f)<|by exact f4 _ (aN b f))<|Kn 0 (kS c) (fun _=>Kf 0<|cb<|rr0 false) fun _=>Kl 1 26 (dt a)<|Kf 0<|e sA
mutual
noncomputable def mN:TUnit->Int->Int->Int
  |⟨_,_,_,_,_,_,_,kids⟩,deep,most=>match aB 20 deep with|true=>most+1|false=>mO kids deep most 1
noncomputable def mO:List TUnit->Int->Int->Int->Int
  |[],_,_,n=>n
  |k::r,deep,most,n=>match aB most n with|true=>n|false=>mO r deep most (n+mN k (deep+1) (most-n))
end
theorem Qk(u:TUnit)(deep most:Int):mN u deep most=match aB 20 deep with|true=>most+1|false=>mO u.kids deep most 1:=by
  obtain⟨a,b,c,d,e,f,g,h⟩:=u;rw[mN];rfl
mutual
theorem GJ:∀(u:TUnit)(deep most:Int),0<=most->1<=mN u deep most/\mN u deep most<=most+1
  | ⟨_,_,_,_,_,_,_,kids⟩,deep,most,h=>by
    rw[mN]
    split
    · omega
    · exact GK kids deep most 1 (by omega) (by omega)
theorem GK:∀(l:List TUnit)(deep most n:Int),1<=n->n<=most+1->1<=mO l deep most n/\mO l deep most n<=most+1
  |[],_,_,n,h1,h2=>by grind[mO]
  | k::r,deep,most,n,h1,h2=>by
    rw[mO]
    split
    · omega
    · rename_i h
      have:=aF h
      have:=GJ k (deep+1) (most-n) (by omega)
      exact GK r deep most _ (by omega) (by omega)
end
theorem T8:∀(u:TUnit),tV u->∀(deep most:Int),0<=deep->deep<=21->0<=most->most<=2^20->kP 99 [eU u,iV deep,iV most] (iV (mN u deep most)):=by
  refine TUnit.ind fun u ih hf deep most d1 d2 m1 m2=>?_
  obtain⟨f1,f2,f3,f4⟩:=qP.1 hf
  have rr0 b' (h:(mN u deep most)=b':=by rw[Qk];simp only[mO,aS,ax,bS, *]):=h;exact bp Tryz.func99<|Ka 3 20 deep (fun _ _=>Kl 1 12 (Le.wr (x:=most+1) ei)<|Kf 0<|li<|rr0<|most+1) fun _ _=>K1 1 (.frz 0 [1,2,3,7,8]) ti<|Pm aY u.kids (1:Int) [1,2,3,7,8] (fun a _ b=>([iV deep,iV most,AV.pptr [ak (uLx u)] 0 0,iV b,nV a],[])) (fun a b=>(1:Int)<=b/\b<=most+(1:Int)/\mO u.kids deep most (1:Int)=mO a deep most b) oA (fun _ _ a _ _ _ b _=>Kl 3 16 (ln aY u.kids)<|Kh 1 b<|Mh b<|Mh b<|My b<|Kf 2<|li<|rr0 a) fun a _ b c _ d e f g i _ j _=>have j:=j.trans<|congrArg some<|aO d;Kl 3 16 (ln aY u.kids)<|Kt 1 i<|Kt 0 i<|Kt 0 i<|Ku 0 i<|Mn (aB most b) (fun i=>have:=aF i;Kx 3 j<|Kl 2 32 (Le.wr (x:=deep+1) ei)<|Kl 2 35 (Le.wr (x:=most-b) ei)<|Mp (ih d (by exact aN c g) (by exact f4 _ (aN c g)) (deep+1) (most-b) oA oA oA oA)<|have:=GJ d (deep+1) (most-b) oA;Kl 0 37 (Le.wr (x:=b+mN d (deep+1) (most-b)) ei)<|Kl 2 24 (dt a)<|Kf 0<|f (b+mN d (deep+1) (most-b))<|by(refine⟨by omega,by omega,?_⟩;first|rfl|grind[mO])) fun a=>have:=aA a;Kf 1<|li<|rr0 b
noncomputable def HF(u:TUnit)(most:Int):Bool:=ax (aB most (mN u 0 most))&&kS u
theorem Vu(u:TUnit)(most:Int)(hf:tV u)(m1:0<=most)(m2:most<=2^20):kP 69 [eU u,iV most] (.bool (HF u most)):=by
  have rr0 b' (h:(HF u most)=b':=by simp only[HF,aS,ax,bS, *]):=h;exact bp Tryz.func69<|Kp 3 (T8 u hf 0 most oA oA m1 m2)<|Kn 2 (aB most<|mN u 0 most) (fun a=>Kt 0 (cS a)<|Mp (PA u hf)<|MV (cS a)<|Kf 0<|cb<|rr0<|kS u) fun a=>Mh (cE a)<|My (cE a)<|Ky 0<|rr0 false
noncomputable def xI(s:aH):Bool:=ax (aB 100 (.ofNat s.length))
noncomputable def xH(s:PStep):Bool:=ax (aB 100 (.ofNat s.label.length))
noncomputable def ye(x:PItem):Bool:=
  ax (aB 12 (.ofNat x.at_.length))&&ax (aB 12 (.ofNat x.to.length))&&ax (aB 300 (.ofNat x.old.length))&&ax (aB 300 (.ofNat x.new.length))&&ax (aB 100 (.ofNat x.label.length))&&ax (aB 100 (.ofNat x.for_.length))
  &&ax (aB 100 (.ofNat x.start.event.length))&&ax (aB 100 (.ofNat x.event.length))&&ax (aB 2 (.ofNat x.by_.length))&&HF x.unit 30
noncomputable def IW(y:PItem):Bool:=aB 0 (.ofNat y.by_.length)&&aB 0 (.ofNat (gD y.by_ 0).by_.length)
mutual
noncomputable def nK:PItem->Bool
  |⟨k,a,t,w,nn,u,o,n,lb,fo,st,ac,it,dy,ev,by_⟩=>ye ⟨k,a,t,w,nn,u,o,n,lb,fo,st,ac,it,dy,ev,by_⟩&&(o.all xI&&(n.all xI&&(a.all xH&&(t.all xH&&HH by_))))
noncomputable def HH:List PItem->Bool
  |[]=>true
  |u::r=>(ax (IW u)&&nK u)&&HH r
end
noncomputable def Ii(y:PItem):Bool:=ax (IW y)&&nK y
theorem HG:∀(l:List PItem),HH l=l.all Ii
  |[]=>by rw[HH];rfl
  |u::r=>by rw[HH,HG r];rfl
theorem EI(x:PItem):nK x=(ye x&&(x.old.all xI&&(x.new.all xI&&(x.at_.all xH&&(x.to.all xH&&x.by_.all Ii))))):=by
  obtain⟨k,a,t,w,nn,u,o,n,lb,fo,st,ac,it,dy,ev,by_⟩:=x
  rw[nK,HG];rfl
theorem VB:∀(x:PItem),nr x->kP 36 [eI x] (.bool (nK x)):=by
  refine PItem.ind fun x ih hf=>?_
  obtain⟨f1,f2,f3,f4,f5,f6,f7⟩:=qR.1 hf
  have hu:kP 69 [eU x.unit,iV 30] (.bool (HF x.unit 30)):=Vu x.unit 30 f6 (by omega) (by omega)
  have rr0 b' (h:(nK x)=b':=by rw[EI,ye];simp only[Ii,IW,xI,xH,aS,ax,bS, *]):=h;exact bp Tryz.func36<|Kl 4 10 (ln az x.at_)<|Ka 1 12 (Int.ofNat x.at_.length) (fun a _=>Mt a<|Mt a<|Mt a<|MV a<|Ky 17<|rr0 false) fun a _=>Kh 0 a<|Kh 0 a<|Kl 0 15 (ln az x.to)<|Mh a<|Kw 0 a<|Ka 0 12 (Int.ofNat x.to.length) (fun a _=>Mt a<|Mt a<|Mt a<|MV a<|Ky 15<|rr0 false) fun a _=>Kh 0 a<|Kh 0 a<|Kl 0 21 (ln nw x.old)<|Mh a<|Kw 0 a<|Ka 0 300 (Int.ofNat x.old.length) (fun a _=>Mt a<|Mt a<|Mt a<|MV a<|Ky 13<|rr0 false) fun a _=>Kh 0 a<|Kh 0 a<|Kl 0 27 (ln nw x.new)<|Mh a<|Kw 0 a<|Ka 0 300 (Int.ofNat x.new.length) (fun a _=>Mt a<|Mt a<|Mt a<|MV a<|Ky 11<|rr0 false) fun a _=>Kh 0 a<|Kh 0 a<|Kh 0 a<|Kw 0 a<|Ka 0 100 (Int.ofNat<|List.length x.label) (fun a _=>Mt a<|Mt a<|Mt a<|MV a<|Ky 9<|rr0 false) fun a _=>Kh 0 a<|Kh 0 a<|Kh 0 a<|Kw 0 a<|Ka 0 100 (Int.ofNat<|List.length x.for_) (fun a _=>Mt a<|Mt a<|Mt a<|Mt a<|MV a<|Ky 7<|rr0 false) fun a _=>Kh 0 a<|Kh 0 a<|Kh 0 a<|Kh 0 a<|Kw 0 a<|Ka 0 100 (Int.ofNat<|List.length x.start.event) (fun a _=>Mt a<|Mt a<|Mt a<|MV a<|Ky 5<|rr0 false) fun a _=>Kh 0 a<|Kh 0 a<|Kh 0 a<|Kw 0 a<|Ka 0 100 (Int.ofNat<|List.length x.event) (fun a _=>Mt a<|Mt a<|Mt a<|MV a<|Ky 3<|rr0 false) fun a _=>Kh 0 a<|Kh 0 a<|Kl 0 58 (ln OP x.by_)<|Mh a<|Kw 0 a<|Ka 0 2 (Int.ofNat x.by_.length) (fun a _=>Mt a<|Mt a<|Mt a<|MV a<|Ky 1<|rr0 false) fun a _=>Kh 0 a<|Kh 0 a<|Mp hu<|Mh a<|Kw 0 a<|Mn (HF x.unit 30) (fun _=>Ky 0<|rr0 false) fun _=>K1 0 (.frz 0 [1,3]) ti<|td nw x.old [1,3] (fun a _=>([AV.pptr [ak (iLx x)] 0 0,nV a],[])) (fun a=>x.old.all xI=a.all xI) (by rfl) (fun _ _ _ _ _ a _=>Kl 3 70 (ln nw x.old)<|Kh 0 a<|Mg 0<|td nw x.new [1,4] (fun a _=>([AV.pptr [ak (iLx x)] 0 0,nV a],[])) (fun a=>x.new.all xI=a.all xI) (by rfl) (fun _ _ _ _ _ a _=>Kl 3 84 (ln nw x.new)<|Kh 0 a<|Mg 0<|td az x.at_ [1,5] (fun a _=>([AV.pptr [ak (iLx x)] 0 0,nV a],[])) (fun a=>x.at_.all xH=a.all xH) (by rfl) (fun _ _ _ _ _ a _=>Kl 3 98 (ln az x.at_)<|Kh 0 a<|Mg 0<|td az x.to [1,6] (fun a _=>([AV.pptr [ak (iLx x)] 0 0,nV a],[])) (fun a=>x.to.all xH=a.all xH) (by rfl) (fun _ _ _ _ _ a _=>Kl 3 113 (ln az x.to)<|Kh 0 a<|Mg 0<|td OP x.by_ [1,7] (fun a _=>([AV.pptr [ak (iLx x)] 0 0,nV a],[])) (fun a=>x.by_.all Ii=a.all Ii) (by rfl) (fun _ _ _ _ _ a _=>Kl 3 128 (ln OP x.by_)<|Kh 0 a<|Ky 0<|rr0 true) fun a _ b _ c d e f g _ i _=>have i:=i.trans<|congrArg some<|ee c;Kl 3 128 (ln OP x.by_)<|Kt 0 g<|Kx 2 i<|Kl 2 138 (ln OP c.by_)<|Ka 1 0 (Int.ofNat c.by_.length) (fun g _=>Kt 0 g<|Kt 0 g<|Kt 0 g<|Mx i<|Mt g<|Kt 0 g<|Kt 0 g<|Mx ((aR OP (sA:0<(c.by_).length)).trans<|congrArg some<|ee _)<|Mt g<|Kt 0 g<|Kt 0 g<|Kl 0 150 (ln OP (gD c.by_ 0).by_)<|Mt g<|Ku 0 g<|Ka 0 0 (Int.ofNat (gD c.by_ 0).by_.length) (fun a _=>Mt a<|Mt a<|Mt a<|Mt a<|Mt a<|Mt a<|MV a<|Ky 1<|rr0 false) fun g _=>Kh 0 g<|Kh 0 g<|Kh 0 g<|Mx i<|Mh g<|Kh 0 g<|Mp (ih c (by exact aN b f)<|by exact f7 _ (aN b f))<|Mh g<|Kw 0 g<|Mn (nK c) (fun _=>Kf 0<|cb<|rr0 false) fun _=>Kl 1 131 (dt a)<|Kf 0<|e<|by simp_all[Ii,IW]) fun g _=>Mh g<|Mh g<|Mh g<|Mh g<|Mh g<|Mh g<|Mh g<|Mh g<|Mh g<|Mh g<|My g<|Kx 3 i<|Kp 0 (ih c (by exact aN b f)<|by exact f7 _ (aN b f))<|Kn 1 (nK c) (fun _=>Kf 0<|cb<|rr0 false) fun _=>Kl 1 131 (dt a)<|Kf 0<|e<|by simp_all[Ii,IW]) fun a _ _ _ b c d _ e _ f _=>Kl 3 113 (ln az x.to)<|Kt 0 e<|Kx 2 f<|Ka 3 100 (Int.ofNat<|List.length b.label) (fun _ _=>Ky 0<|rr0 false) fun _ _=>Kl 1 116 (dt a)<|Kf 0<|d<|by simp_all[xH]) fun a _ _ _ b c d _ e _ f _=>Kl 3 98 (ln az x.at_)<|Kt 0 e<|Kx 2 f<|Ka 3 100 (Int.ofNat<|List.length b.label) (fun _ _=>Ky 0<|rr0 false) fun _ _=>Kl 1 101 (dt a)<|Kf 0<|d<|by simp_all[xH]) fun a _ _ _ b c d _ e _ f _=>Kl 3 84 (ln nw x.new)<|Kt 0 e<|Kx 2 f<|Ka 2 100 (Int.ofNat<|List.length b) (fun _ _=>Ky 0<|rr0 false) fun _ _=>Kl 1 87 (dt a)<|Kf 0<|d<|by simp_all[xI]) fun a _ _ _ b c d _ e _ f _=>Kl 3 70 (ln nw x.old)<|Kt 0 e<|Kx 2 f<|Ka 2 100 (Int.ofNat<|List.length b) (fun _ _=>Ky 0<|rr0 false) fun _ _=>Kl 1 73 (dt a)<|Kf 0<|d<|by simp_all[xI]
noncomputable def Bo(most n:Int)(a:PAct):Bool:=aB most (n+Int.ofNat a.items.length)||(aB 100 (Int.ofNat a.title.length)||(aB 60 (Int.ofNat a.start.event.length)||ax (a.items.all nK)))
noncomputable def mj(most:Int):List PAct->Int->Option Int
  |[],n=>some n
  |a::r,n=>match Bo most n a with|true=>none|false=>mj most r (n+Int.ofNat a.items.length)
noncomputable def wK(g:PGaz):Bool:=aB 8 (Int.ofNat g.acts.length)||aB 60 (Int.ofNat g.prior.length)
noncomputable def uI(most:Int):List PGaz->Int->Bool
  |[],_=>true
  |g::r,n=>match wK g with|true=>false|false=>match mj most g.acts n with|none=>false|some m=>uI most r m
noncomputable def OC(gs:List PGaz)(most:Int):Bool:=match aB 8 (Int.ofNat gs.length)with|true=>false|false=>uI most gs 0
theorem VC(gs:List PGaz)(most:Int)(hf:pM gs)(m1:0<=most)(m2:most<=2^20):kP 15 [.ls (gs.map ae),iV most] (.bool (OC gs most)):=by
  obtain⟨f0,f1⟩:=hf
  have fa:∀g,g∈gs->∀a,a∈g.acts->a.items.length<2^60:=fun g hg a ha=>((f1 g hg).2 a ha).1
  have fb:∀g,g∈gs->g.acts.length<2^60:=fun g hg=>(f1 g hg).1
  have rr0 b' (h:(OC gs most)=b':=by simp only[OC,uI,wK,mj,Bo,aS,ax,bS, *]):=h;exact bp Tryz.func15<|Kl 2 11 (ln ae gs)<|Ka 0 8 (Int.ofNat gs.length) (fun _ _=>Ky 0<|rr0 false) fun _ _=>Mg 1<|Pm ae gs (0:Int) [0,1,5,6] (fun b _ c=>([aW<|gs.map ae,iV most,iV c,nV b],[])) (fun b c=>(0:Int)<=c/\c<=most/\uI most gs (0:Int)=uI most b c) (by(refine⟨by omega,by omega,?_⟩;first|rfl|(simp only[uI,wK,mj,aS,ax,bS, *]))) (fun _ _ _ _ _ _ b _=>Kl 2 15 (ln ae gs)<|Kh 0 b<|Ky 0<|rr0 true) fun b _ c d _ e f i j k _ l m=>Kl 2 15 (ln ae gs)<|Kt 0 k<|Kx 1 l<|Kl 2 24 (ln av e.acts)<|Ka 1 8 (Int.ofNat e.acts.length) (fun b _=>Mt b<|Mt b<|Mt b<|Mt b<|Mt b<|Mt b<|MV b<|Ky 1<|rr0 false) fun k _=>Kh 0 k<|Kh 0 k<|Mx l<|Mh k<|Kh 0 k<|Kh 0 k<|Kh 0 k<|Kw 0 k<|Mb (aB 60<|Int.ofNat<|List.length e.prior) (fun b=>have:=aA b;Ky 0<|rr0 false) fun k=>have:=aF k;Mg 0<|Pm av e.acts c [0,1,5,6,7] (fun c _ d=>([aW<|gs.map ae,iV most,iV d,nV b,nV c],[])) (fun b d=>(0:Int)<=d/\d<=most/\mj most e.acts c=mj most b d) (by(exact⟨m.1,m.2.1,rfl⟩)) (fun _ _ c _ _ _ d _=>Kx 2 l<|Kl 2 41 (ln av e.acts)<|Kh 0 d<|Kl 1 18 (dt b)<|Kf 0<|i c<|by(refine⟨by omega,by omega,?_⟩;first|rfl|(simp only[uI,wK,mj,aS,ax,bS, *]))) fun f _ i k _ m n o p q _ r _=>have:=fa e (aN d j) m<|aN k p;have:=fb e<|aN d j;Kx 2 l<|Kl 2 41 (ln av e.acts)<|Kt 0 q<|Kx 1 l<|Kx 2 r<|Kl 6 56 (ln OP m.items)<|Kl 0 57 (Le.wr (x:=i+Int.ofNat m.items.length) ei)<|Ka 4 most (i+Int.ofNat m.items.length) (fun b _=>Mt b<|Mt b<|Mt b<|MV b<|Ky 3<|rr0 false) fun l _=>Kh 0 l<|Kh 0 l<|Kh 0 l<|Kw 0 l<|Ka 0 100 (Int.ofNat<|List.length m.title) (fun b _=>Mt b<|Mt b<|Mt b<|Mt b<|MV b<|Ky 1<|rr0 false) fun l _=>Kh 0 l<|Kh 0 l<|Kh 0 l<|Kh 0 l<|Kw 0 l<|Mb (aB 60<|Int.ofNat<|List.length m.start.event) (fun b=>have:=aA b;Ky 0<|rr0 false) fun l=>have:=aF l;K1 0 (.frz 0 [0,1,5,6,7,8,9]) ti<|td OP m.items [0,1,5,6,7,8,9] (fun c _=>([aW<|gs.map ae,iV most,iV<|i+Int.ofNat m.items.length,nV b,nV f,AV.pptr [ak [iV m.number,aj m.title,iV m.day,iV m.start.kind,iV m.start.day,aj m.start.event,aW<|m.items.map OP]] 0 0,nV c],[])) (fun b=>m.items.all nK=b.all nK) (by rfl) (fun _ _ _ _ _ b _=>Kl 3 77 (ln OP m.items)<|Kh 0 b<|Kl 1 44 (dt f)<|Kf 0<|o (i+Int.ofNat m.items.length)<|by(refine⟨by(simp only[oN]at *;omega),by assumption,?_⟩;simp only[mj,Bo,aS,ax,bS, *])) fun b _ c _ e f i l n _ o _=>have o:=o.trans<|congrArg some<|ee e;Kl 3 77 (ln OP m.items)<|Kt 0 n<|Kx 2 o<|Kp 0 (VB e<|by first|exact((f1 _ (aN d j)).2 _ (aN k p)).2 _ (aN c l))<|Kn 0 (nK e) (fun _=>Kf 0<|cb<|rr0 false) fun _=>Kl 1 80 (dt b)<|Kf 0<|i<|by simp only[aS,ax,bS, *]at *
noncomputable def OB(gs:List PGaz)(p:aH):Bool:=OC gs 24&&ax (aB 60 (Int.ofNat p.length))
theorem VA(gs:List PGaz)(p:aH)(hf:pM gs):kP 19 [.ls (gs.map ae),.str p] (.bool (OB gs p)):=by
  have rr0 b' (h:(OB gs p)=b':=by simp only[OB,aS,ax,bS, *]):=h;exact bp Tryz.func19<|Kp 1 (VC gs 24 hf oA oA)<|Kb 0 (OC gs 24) (fun a=>Kt 0 a<|Kt 0 a<|Ku 0 a<|Kf 0<|cb<|rr0<|ax<|aB 60<|Int.ofNat<|List.length p) fun a=>Mh a<|Mh a<|My a<|Ky 0<|rr0 false
theorem ifB(l:aH)(g:Nat)(p:UInt8->Bool)(hp:∀s,s∈l->kP g [.int .u8 (.ofNat s.toNat)] (.bool (p s)))(hl:l.length<2^40):kP 330 [.ls (l.map nR),.func (.func g) [] []] (iV (dX p l 0)):=by
  have rr0 b' (h:(dX p l 0)=b':=by first|exact ke zd0 hr0 hj0 ‹_› |exact hj0):=h;exact bp Tryz.func330<|Kl 2 7 (ln nR l)<|Mg 0<|td nR l [0,1,7,8] (fun a _=>([aW<|l.map nR,bj (bx g) [] [],nV<|List.length l,nV a],[])) (fun a=>dX p l (0:Nat)=dX p a (List.length l-a.length)) sA (fun _ _ zd0 _ hr0 a hj0=>Kh 0 a<|Kf 0<|li<|rr0 (-1)) fun a _ zd0 _ b c d hr0 e _ f hj0=>Kt 0 e<|Kx 4 f<|Kp 0 (hp b<|by exact aN zd0 hr0)<|Mb (p b) (fun _=>Kf 1<|li<|rr0<|Int.ofNat a) fun _=>Kl 0 18 (dt a)<|Kf 0<|d<|by exact iE zd0 hr0 hj0 (by omega)
theorem cfB(l:aH)(g:Nat)(p:UInt8->Bool)(hp:∀s,s∈l->kP g [.int .u8 (.ofNat s.toNat)] (.bool (p s)))(hl:l.length<2^40):kP 314 [.ls (l.map nR),.func (.func g) [] []] (.bool (l.any p)):=by
  have h:=ifB l g p hp hl
  have rr0 b' (h:(List.any l p)=b':=by(rw[jg];simp only[aS,ax,bS,mJ])):=h;exact bp Tryz.func314<|Kp 2 h<|Kf 1<|cb<|rr0<|ax<|aB (dX p l 0) 0
theorem PB(c:UInt8):kP 313 [.int .u8 (.ofNat c.toNat)] (.bool (ax (Ru 33 126 c))):=by
  have rr0 b' (h:(ax (Ru 33 126 c))=b':=by(simp only[Ru,aS,ax,bS,mJ, *])):=h;exact bp Tryz.func313<|Kb 3 (aB (Int.ofNat c.toNat) 33) (fun a=>Mt a<|MV a<|Ky 0<|rr0 true) fun a=>Kh 0 a<|Kw 0 a<|Kf 0<|cb<|rr0<|aB 126<|Int.ofNat c.toNat
theorem TB(s:aH)(hs:s.length<=2^39):kP 277 [.str s] (.bool (sY s)):=by
  have h:=cfB s 313 _ (fun c _=>PB c) (by omega)
  have rr0 b' (h:(sY s)=b':=by first|(simp only[sY,aS,ax,bS, *];done)|(rw[sY,Sh,List.all_eq_not_any_not];simp only[En,aS,ax,bS, *]at *)):=h;let q:=List.map nR s;exact bp Tryz.func277<|Kn 4 (dM s (ByteArray.mk #[]).data.toList) (fun a=>Kt 0 (cS a)<|Kt 0 (cS a)<|Ku 0 (cS a)<|Kn 0 (aB 24<|Int.ofNat<|List.length s) (fun a=>Kt 0 (cS a)<|Mv (V6 (s:=s) (H:=aa []) (oA:(s).length<=2^40))<|Mt (cS a)<|Kt 0 (cS a)<|Mp (aL.onArgs (.cons (eP q _<|aX W5 s)<|lc .nil) h:kP 314 [j9 q false,bj (bx 313) [] []] _)<|Mt (cS a)<|Ku 0 (cS a)<|Kf 0<|cb<|rr0<|ax<|List.any s fun a=>ax<|Ru 33 126 a) fun a=>Mh (cE a)<|Mh (cE a)<|Mh (cE a)<|Mh (cE a)<|My (cE a)<|Ky 0<|rr0 false) fun a=>Mh (cE a)<|Mh (cE a)<|My (cE a)<|Ky 2<|rr0 false
theorem ifS(l:List aH)(g:Nat)(p:aH->Bool)(hp:∀s,s∈l->kP g [.str s] (.bool (p s)))(hl:l.length<2^40):kP 312 [.ls (l.map nw),.func (.func g) [] []] (iV (dX p l 0)):=by
  have rr0 b' (h:(dX p l 0)=b':=by first|exact ke zd0 hr0 hj0 ‹_› |exact hj0):=h;exact bp Tryz.func312<|Kl 2 7 (ln nw l)<|Mg 0<|td nw l [0,1,7,8] (fun a _=>([aW<|l.map nw,bj (bx g) [] [],nV l.length,nV a],[])) (fun a=>dX p l (0:Nat)=dX p a (l.length-a.length)) sA (fun _ _ zd0 _ hr0 a hj0=>Kh 0 a<|Kf 0<|li<|rr0 (-1)) fun a _ zd0 _ b c d hr0 e _ f hj0=>Kt 0 e<|Kx 4 f<|Kp 0 (hp b<|by exact aN zd0 hr0)<|Mb (p b) (fun _=>Kf 1<|li<|rr0<|Int.ofNat a) fun _=>Kl 0 18 (dt a)<|Kf 0<|d<|by exact iE zd0 hr0 hj0 (by omega)
theorem cfS(l:List aH)(g:Nat)(p:aH->Bool)(hp:∀s,s∈l->kP g [.str s] (.bool (p s)))(hl:l.length<2^40):kP 275 [.ls (l.map nw),.func (.func g) [] []] (.bool (l.any p)):=by
  have h:=ifS l g p hp hl
  have rr0 b' (h:(l.any p)=b':=by(rw[jg];simp only[aS,ax,bS,mJ])):=h;exact bp Tryz.func275<|Kp 2 h<|Kf 1<|cb<|rr0<|ax<|aB (dX p l 0) 0
theorem Nn(s:aH)(hs:s.length<=2^39):kP 276 [.str s] (.bool (ax (sY s))):=by
  exact bp Tryz.func276<|Kp 1 (TB s hs)<|Kf 1<|bw<|eO<|ax<|sY s
theorem Ls(l:List aH)(hl:l.length<2^40)(hs:∀s,s∈l->s.length<=2^39):kP 236 [.ls (l.map nw)] (.bool (qm l)):=by
  have h:=cfS l 276 _ (fun s m=>Nn s (hs s m)) hl
  have rr0 b' (h:(qm l)=b':=by first|(simp only[qm,aS,ax,bS, *];done)|(rw[qm,List.all_eq_not_any_not];simp only[aS,ax,bS, *])):=h;exact bp Tryz.func236<|Kl 2 4 (ln nw l)<|Kn 1 (aB 256<|Int.ofNat l.length) (fun a=>Kt 0 (cS a)<|Mp h<|Mt (cS a)<|Ku 0 (cS a)<|Kf 0<|cb<|rr0<|ax<|l.any fun a=>ax<|sY a) fun a=>Mh (cE a)<|Mh (cE a)<|My (cE a)<|Ky 0<|rr0 false
theorem Qu(r:Int):kP 279 [.int .i32 r] (.bool (aB r 48||aB 57 r)):=by
  have rr0 b' (h:(aB r 48||aB 57 r)=b':=by(simp only[aS,ax,bS, *])):=h;exact bp Tryz.func279<|Kb 3 (aB r 48) (fun a=>Mt a<|MV a<|Ky 0<|rr0 true) fun a=>Kh 0 a<|Kw 0 a<|Kf 0<|cb<|rr0<|aB 57 r
theorem Up(r:Int):kP 238 [.int .i32 r] (.bool (aB r 65||aB 90 r)):=by
  have rr0 b' (h:(aB r 65||aB 90 r)=b':=by(simp only[aS,ax,bS, *])):=h;exact bp Tryz.func238<|Kb 3 (aB r 65) (fun a=>Mt a<|MV a<|Ky 0<|rr0 true) fun a=>Kh 0 a<|Kw 0 a<|Kf 0<|cb<|rr0<|aB 90 r
theorem IF(s:PStep):kP 192 [az s] (.bool (ay s.kind 0&&dM s.label [])):=by
  have rr0 b' (h:(ay s.kind 0&&dM s.label [])=b':=by(simp only[aS,ax,bS, *];first|done|rfl)):=h;exact bp Tryz.func192<|Kb 5 (ay s.kind 0) (fun a=>Kt 0 a<|Kt 0 a<|Ku 0 a<|Kf 0<|cb<|rr0<|dM s.label (ByteArray.mk #[]).data.toList) fun a=>Mh a<|Mh a<|My a<|Ky 0<|rr0 false
theorem vg(n a b:Int):kP 188 [iV n,iV a,iV b] (.bool (ax (aB n a)&&ax (aB b n))):=by
  have rr0 b' (h:(ax (aB n a)&&ax (aB b n))=b':=by(simp only[aS,ax,bS, *])):=h;exact bp Tryz.func188<|Kn 4 (aB n a) (fun c=>Kt 0 (cS c)<|Kt 0 (cS c)<|Ku 0 (cS c)<|Kf 0<|cb<|rr0<|ax<|aB b n) fun c=>Mh (cE c)<|Mh (cE c)<|My (cE c)<|Ky 0<|rr0 false
theorem RD(s:aH):kP 278 [.str s,.func (.func 279) [] []] (iV (bif Nat.beq (eh kn s) s.length then -1 else Int.ofNat (eh kn s))):=
  Al jk (Go.Proofs.enters_of Go.Proofs.Tryz.lidxf.f15 (by kernel_rfl) rfl) (Go.Proofs.enters_of Tryz.func279 (by kernel_rfl) rfl)
    (fun s w hp=>Go.Proofs.Any.strings_IndexFunc_grows Go.Proofs.Tryz.lidxf 279 #[] (Go.Proofs.enters_of Tryz.func279 (by kernel_rfl) rfl) _ s w hp) Qu (fun _=>rfl) (Iy (lo:=48) (hi:=57) (by omega)) s
theorem RE(s:aH)(h:By (Nat.beq (eh kn s) s.length) true):kP 278 [.str s,.func (.func 279) [] []] (iV (-1)):=by
  have:=RD s
  simp_all
theorem Vx(s:aH)(h:By (Nat.beq (eh kn s) s.length) false):kP 278 [.str s,.func (.func 279) [] []] (nV (eh kn s)):=by
  have:=RD s
  grind
theorem abp(s:aH):kP 239 [.str s,.func (.func 238) [] []] (.bool (ax (s.all YR))):=
  vJ jk (Go.Proofs.enters_of Go.Proofs.Tryz.lconf.f17 (by kernel_rfl) rfl) (Go.Proofs.enters_of Tryz.func238 (by kernel_rfl) rfl)
    (fun s w hp=>Go.Proofs.Any.strings_ContainsFunc_grows Go.Proofs.Tryz.lconf 238 #[] (Go.Proofs.enters_of Tryz.func238 (by kernel_rfl) rfl) _ s w hp) Up (fun _=>rfl) (Iy (lo:=65) (hi:=90) (by omega)) s
theorem N2(s:aH)(hs:s.length<=2^39):kP 237 [.str s] (.tuple [.str (s.take (eh kn s)),.str (s.drop (eh kn s))]):=by
  have hl:=Lo (p:=kn) (s:=s)
  have rr0 b' (h:(s.take (eh kn s))=b':=by(rw[pF h0];simp)):=h;have rr1 b' (h:(s.drop (eh kn s))=b':=by(rw[pF h0];simp)):=h;let q:=AHeap.mk 1000000 Tr.nil;exact bp Tryz.func237<|Ks 2 ((eh kn s).beq<|List.length s) (fun h0=>Mp (RE s h0)<|Kf 6<|cL<|.cons (Le.str<|rr0 s)<|.cons (Le.str<|rr1 []) .nil) fun h0=>Mp (Vx s h0)<|Kv 5 (Xi (s:=s) (n:=eh kn s) (k:=IntKind.i64) (H:=q) oA)<|Kv 1 (Xh (s:=s) (l:=eh kn s) (k:=IntKind.i64) (H:=q) oA)<|Kf 1<|bw<|cK [aj<|s.take<|eh kn s,aj<|s.drop<|eh kn s]
theorem ur(s:aH)(hs:s.length<=2^39):kP 183 [.str s] (.bool (ka s)):=by
  have hd:(s.drop (eh kn s)).length<=2^39:=by grind
  have rr0 b' (h:(ka s)=b':=by first|(simp only[ka,aS,ax,bS,mJ, *];done)|(simp only[ka,aS,ax,bS,mJ, *];rfl)|(unfold ka;simp only[h0,h1,h2];rfl)):=h;exact bp Tryz.func183<|Kp 1 (N2 s hs)<|Kd 9 (Int.ofNat (s.take<|eh kn s).length) 1 (fun h0 _=>Kt 0 (cS h0)<|Kt 0 (cS h0)<|Ku 0 (cS h0)<|Kd 0 4 (Int.ofNat (s.take<|eh kn s).length) (fun h1 _=>Kt 0 (cS h1)<|M1 (.chr<|gD (s.take<|eh kn s) 0) (zL (gR:0<(s.take (eh kn s)).length))<|Mt (cS h1)<|Ku 0 (cS h1)<|Kc 0 (Int.ofNat (gD (s.take<|eh kn s) 0).toNat) 48 (fun h2 _=>Kt 0 (cS h2)<|Kt 0 (cS h2)<|Ku 0 (cS h2)<|Kd 0 3 (Int.ofNat (s.drop<|eh kn s).length) (fun a _=>Kt 0 (cS a)<|Kt 0 (cS a)<|Mp (abp<|s.drop<|eh kn s)<|Mt (cS a)<|Ku 0 (cS a)<|Kf 0<|cb<|rr0<|ax<|ax<|(s.drop<|eh kn s).all YR) fun a _=>Mh (cE a)<|Mh (cE a)<|Mh (cE a)<|My (cE a)<|Ky 0<|rr0 false) fun h2 _=>Mh (cE h2)<|Mh (cE h2)<|My (cE h2)<|Ky 2<|rr0 false) fun h1 _=>Mh (cE h1)<|Mh (cE h1)<|My (cE h1)<|Ky 4<|rr0 false) fun h0 _=>Mh (cE h0)<|Mh (cE h0)<|My (cE h0)<|Ky 6<|rr0 false
theorem vb(p:List PStep)(hl:p.length<2^40)(hs:∀s,s∈p->s.label.length<=2^39):kP 115 [.ls (p.map az)] (.bool (kO p)):=by
  have rr0 b' (h:(kO p)=b':=by first|(rw[kO,hj0,Wy];rfl)|(rw[kO,Fx zd0 hr0 hj0];simp only[nl,tO,‹ay (Int.ofNat zi0) 0=_›,cond_true,cond_false];simp only[En,aS,ax,bS, *];first|done|rfl)):=h;exact bp Tryz.func115<|Kl 2 6 (ln az p)<|Mg 0<|td az p [0,5,6,7] (fun a _=>([aW<|p.map az,aW<|p.map az,nV p.length,nV a],[])) (fun a=>Pz p=IE p a) (by(exact Pq)) (fun zi0 _ zd0 _ hr0 a hj0=>Kh 0 a<|Kl 1 34 (ln az p)<|Kf 1<|cb<|rr0<|ax<|aB 9<|Int.ofNat p.length) fun zi0 _ zd0 _ a b c hr0 d _ e hj0=>Kt 0 d<|Kx 0 e<|Kj 6 (Int.ofNat zi0) 0 (fun d _=>Kt 0 d<|Mp (IF a)<|MV d<|Mb (ay a.kind 0&&dM a.label []) (fun _=>Kl 0 32 (dt zi0)<|K1 0 (.frz 0 [0,5,6,7]) ti<|Mf<|c<|by(rw[Fx zd0 hr0 hj0];simp only[nl,tO,‹ay (Int.ofNat zi0) 0=_›,cond_true,cond_false];simp only[En,aS,ax,bS, *];first|done|rfl)) fun _=>Kd 3 0 a.kind (fun a _=>Mt (cS a)<|Mt (cS a)<|MV (cS a)<|Ky 3<|rr0 false) fun d _=>Kh 0 (cE d)<|Kh 0 (cE d)<|Kw 0 (cE d)<|Ka 0 7 a.kind (fun a _=>Mt a<|Mt a<|Mt a<|MV a<|Ky 1<|rr0 false) fun d _=>Kh 0 d<|Kh 0 d<|Mp (ur a.label<|by exact hs _ (aN zd0 hr0))<|Mh d<|Kw 0 d<|Mn (ka a.label) (fun _=>Kf 0<|cb<|rr0 false) fun _=>Kl 0 32 (dt zi0)<|K1 0 (.frz 0 [0,5,6,7]) ti<|Mf<|c<|by(rw[Fx zd0 hr0 hj0];simp only[nl,tO,‹ay (Int.ofNat zi0) 0=_›,cond_true,cond_false];simp only[En,aS,ax,bS, *];first|done|rfl)) fun d _=>Mh d<|My d<|Kd 4 0 a.kind (fun a _=>Mt (cS a)<|Mt (cS a)<|MV (cS a)<|Ky 3<|rr0 false) fun d _=>Kh 0 (cE d)<|Kh 0 (cE d)<|Kw 0 (cE d)<|Ka 0 7 a.kind (fun a _=>Mt a<|Mt a<|Mt a<|MV a<|Ky 1<|rr0 false) fun d _=>Kh 0 d<|Kh 0 d<|Mp (ur a.label<|by exact hs _ (aN zd0 hr0))<|Mh d<|Kw 0 d<|Mn (ka a.label) (fun _=>Kf 0<|cb<|rr0 false) fun _=>Kl 0 32 (dt zi0)<|K1 0 (.frz 0 [0,5,6,7]) ti<|Mf<|c<|by(rw[Fx zd0 hr0 hj0];simp only[nl,tO,‹ay (Int.ofNat zi0) 0=_›,cond_true,cond_false];simp only[En,aS,ax,bS, *];first|done|rfl)
theorem Vz(l:List Int)(v:Int)(hl:l.length<2^40):kP 301 [.ls (l.map bW),iV v] (iV (dX (ay v) l 0)):=by
  have rr0 b' (h:(dX (ay v) l 0)=b':=by first|exact ke zd0 hr0 hj0 ‹_› |exact hj0):=h;exact bp Tryz.func301<|Kl 2 7 (ln bW l)<|Mg 0<|td bW l [0,1,7,8] (fun a _=>([aW<|l.map bW,iV v,nV l.length,nV a],[])) (fun a=>dX (ay v) l (0:Nat)=dX (ay v) a (l.length-a.length)) sA (fun _ _ zd0 _ hr0 a hj0=>Kh 0 a<|Kf 0<|li<|rr0 (-1)) fun a _ zd0 _ b c d hr0 e _ f hj0=>Kt 0 e<|Kx 4 f<|Kj 1 v b (fun _ _=>Kf 1<|li<|rr0<|Int.ofNat a) fun _ _=>Kl 0 18 (dt a)<|Kf 0<|d<|by exact iE zd0 hr0 hj0 (by omega)
theorem rF(l:List Int)(v:Int)(hl:l.length<2^40):kP 266 [.ls (l.map bW),iV v] (.bool (l.any (ay v))):=by
  have h:=Vz l v hl
  have rr0 b' (h:(l.any (ay v))=b':=by(rw[jg];simp only[aS,ax,bS,mJ])):=h;exact bp Tryz.func266<|Kp 2 h<|Kf 1<|cb<|rr0<|ax<|aB (dX (ay v) l 0) 0
theorem RC(v:Int):kP 301 [.nils,iV v] (iV (-1)):=by
  let q:=[ab,iV v,iV 0,iV 0];exact bp Tryz.func301<|Mg 3<|MO0 [0,1,7,8] (q,[]) True 0 ti fun _ _=>Kf 2<|bw<|iV (-1)
theorem Iz(v:Int):kP 266 [.nils,iV v] (.bool false):=by
  have h:=RC v
  exact bp Tryz.func266<|Kp 2 h<|Kf 1<|bw<|eO false
theorem kn0:kP 325 [iV 0] (.str (dW 0)):=by
  exact wk Tryz.func325 (.go 11 .fin)<|bw<|aj [98,111,111,107]
theorem kn1:kP 325 [iV 1] (.str (dW 1)):=by
  exact wk Tryz.func325 (.go 11 .fin)<|bw<|aj [112,97,114,116]
theorem kn2:kP 325 [iV 2] (.str (dW 2)):=by
  exact wk Tryz.func325 (.go 11 .fin)<|bw<|aj [115,101,99,116,105,111,110]
theorem kn3:kP 325 [iV 3] (.str (dW 3)):=by
  exact wk Tryz.func325 (.go 11 .fin)<|bw<|aj [112,97,114,97,103,114,97,112,104]
theorem kn4:kP 325 [iV 4] (.str (dW 4)):=by
  exact wk Tryz.func325 (.go 11 .fin)<|bw<|aj [116,97,98,108,101]
theorem kn5:kP 325 [iV 5] (.str (dW 5)):=by
  exact wk Tryz.func325 (.go 11 .fin)<|bw<|aj [114,111,119]
theorem kn6:kP 325 [iV 6] (.str (dW 6)):=by
  exact wk Tryz.func325 (.go 11 .fin)<|bw<|aj [99,101,108,108]
theorem kn7:kP 325 [iV 7] (.str (dW 7)):=by
  exact wk Tryz.func325 (.go 11 .fin)<|bw<|aj [110,111,116,101]
theorem knX(k:Int)(h:k<0\/7<k):kP 325 [iV k] (.str (dW k)):=by
  rw[JL h]
  have c:aB k 0=true\/(aB k 0=false/\aB k 8=false):=by
    grind[nQ,ky]
  rcases c with c|⟨c,d⟩
  · exact bp Tryz.func325<|Kt 3 c<|Mt c<|MV c<|Kf 1<|bw<|aj []
  · exact bp Tryz.func325<|Kh 3 c<|Kh 0 c<|Kw 0 c<|Mt (cS d)<|Kf 0<|bw<|aj []
theorem xV(k:Int):kP 325 [iV k] (.str (dW k)):=by
  by_cases h:k<0\/7<k
  · grind[knX]
  · grind[kn0,kn1,kn2,kn3,kn4,kn5,kn6,kn7]
theorem ccX(p k:Int)(h:p<0\/7<p):kP 218 [iV p,iV k] (.bool (jz p k)):=by
  unfold jz
  rw[JX h]
  have c:aB p 0=true\/(aB p 0=false/\aB p 8=false):=by
    grind[nQ,ky]
  rcases c with c|⟨c,d⟩
  · exact bp Tryz.func218<|Kh 3 (cE c)<|Mh (cE c)<|My (cE c)<|Kf 2<|bw<|eO false
  · exact bp Tryz.func218<|Kt 3 (cS c)<|Kt 0 (cS c)<|Ku 0 (cS c)<|Kh 0 d<|Mh d<|Mh d<|Mh d<|Mh d<|My d<|Kf 0<|bw<|eO false
theorem cc0(k:Int):kP 218 [iV 0,iV k] (.bool (jz 0 k)):=by
  have h:=rF [1,2] k (by grind)
  let q:=[iV 1,iV 2];exact bp Tryz.func218<|Kp 11 (aL.onArgs (.cons (eP q _<|by rfl)<|lc .nil) h:kP 266 [j9 q false,iV k] _)<|Kf 1<|bw<|eO<|[1,2].any<|ay k
theorem cc1(k:Int):kP 218 [iV 1,iV k] (.bool (jz 1 k)):=by
  have h:=rF [2] k (by grind)
  let q:=[iV 2];exact bp Tryz.func218<|Kp 11 (aL.onArgs (.cons (eP q _<|by rfl)<|lc .nil) h:kP 266 [j9 q false,iV k] _)<|Kf 1<|bw<|eO<|[2].any<|ay k
theorem cc2(k:Int):kP 218 [iV 2,iV k] (.bool (jz 2 k)):=by
  have h:=rF [3,4,7] k (by grind)
  let q:=[iV 3,iV 4,iV 7];exact bp Tryz.func218<|Kp 11 (aL.onArgs (.cons (eP q _<|by rfl)<|lc .nil) h:kP 266 [j9 q false,iV k] _)<|Kf 1<|bw<|eO<|[3,4,7].any<|ay k
theorem cc3(k:Int):kP 218 [iV 3,iV k] (.bool (jz 3 k)):=by
  have h:=rF [3,4,7] k (by grind)
  let q:=[iV 3,iV 4,iV 7];exact bp Tryz.func218<|Kp 11 (aL.onArgs (.cons (eP q _<|by rfl)<|lc .nil) h:kP 266 [j9 q false,iV k] _)<|Kf 1<|bw<|eO<|[3,4,7].any<|ay k
theorem cc4(k:Int):kP 218 [iV 4,iV k] (.bool (jz 4 k)):=by
  have h:=rF [5] k (by grind)
  let q:=[iV 5];exact bp Tryz.func218<|Kp 11 (aL.onArgs (.cons (eP q _<|by rfl)<|lc .nil) h:kP 266 [j9 q false,iV k] _)<|Kf 1<|bw<|eO<|[5].any<|ay k
theorem cc5(k:Int):kP 218 [iV 5,iV k] (.bool (jz 5 k)):=by
  have h:=rF [6] k (by grind)
  let q:=[iV 6];exact bp Tryz.func218<|Kp 11 (aL.onArgs (.cons (eP q _<|by rfl)<|lc .nil) h:kP 266 [j9 q false,iV k] _)<|Kf 1<|bw<|eO<|[6].any<|ay k
theorem cc6(k:Int):kP 218 [iV 6,iV k] (.bool (jz 6 k)):=by
  have h:=Iz k
  exact bp Tryz.func218<|Kp 11 h<|Kf 1<|bw<|eO false
theorem cc7(k:Int):kP 218 [iV 7,iV k] (.bool (jz 7 k)):=by
  have h:=Iz k
  exact bp Tryz.func218<|Kp 11 h<|Kf 1<|bw<|eO false
theorem z8(p k:Int):kP 218 [iV p,iV k] (.bool (jz p k)):=by
  by_cases h:p<0\/7<p
  · grind[ccX]
  · grind[cc0,cc1,cc2,cc3,cc4,cc5,cc6,cc7]
theorem ar{n b m:Nat}(h1:n<=m)(h2:m<=2^40)(h3:m*b<=2^40):small n b=true:=by
  unfold small
  have h4:n*b<=m*b:=eD b h1
  grind[Nat.ble_eq_true_of_le]
noncomputable abbrev wE(u:TUnit):AObj:=.row 8 false 0 [eU u]
def I7(p:PId)(u:TUnit)(x0:Nat×List TUnit×Unit):Prop:=(u.kids).drop x0.1=x0.2.1/\cQ p u.kids=cQ p x0.2.1
noncomputable def yT(p:PId)(u:TUnit)(x0:Nat×List TUnit×Unit):List AV×List AObj:=([AV.ptr 0 0 0 0,AV.ptr 1 0 0 0,AV.ls (u.kids.map aY),nV u.kids.length,nV x0.1],[AObj.row 8 false 0 [AV.agg (uLx u)],AObj.row 3 false 0 [AV.agg [iV p.a,iV p.i,iV p.n]]])
theorem FN(p:PId):∀(u:TUnit),nU u<=2^20->(be p u=false->kP 55 [eU u,aK p] .nils)/\(be p u=true->kP 55 [eU u,aK p] (.ps ((aC p u).map aY) false)):=by
  refine TUnit.ind fun u ih hn=>?_
  have ihn:∀k,k∈u.kids->By (be p k) false->kP 55 [eU k,aK p] .nils:=fun k hk h=>(ih k hk (bO (oS (iC hk)) hn)).1 h
  have ihy:∀k,k∈u.kids->By (be p k) true->kP 55 [eU k,aK p] (.ps ((aC p k).map aY) false):=fun k hk h=>(ih k hk (bO (oS (iC hk)) hn)).2 h
  have hkl:=bm u
  refine⟨fun hs=>?_,fun hs=>?_⟩
  · let q:=[ak (uLx u)];let q3:=[iV p.a,iV p.i,iV p.n];exact bp Tryz.func55<|Kv 5 (lV ((Tryz.prog).underlying 35) u.act u.item u.n p.a p.i p.n<|aa [aZ 8 false 0 q,aZ 3 false 0 [ak q3]])<|Mb (ay u.act p.a&&(ay u.item p.i&&ay u.n p.n)) (fun _=>Kf 2<|fg (by exact absurd (hs.symm.trans (EC ‹_›)) (by grind):(AV.nils)=(AV.ps q true))) fun _=>Kl 2 16 (ln aY u.kids)<|Mg 0<|XK (0:Nat) u.kids () [2,3,15,16,17] (fun a _ _=>([bX 0 0 0 0,bX 1 0 0 0,aW<|u.kids.map aY,nV u.kids.length,nV a],[aZ 8 false 0 [ak (uLx u)],aZ 3 false 0 [ak [iV p.a,iV p.i,iV p.n]]])) (fun a b _=>(u.kids).drop a=b/\cQ p u.kids=cQ p b) (fun _ a _=>a.length) (et rfl<|by rfl) fun a b c d e=>Mc b (fun a=>have b:=gH d.1 a;have:=jA (J:=fun a _=>cQ p u.kids=cQ p a) (a:=c) a d.2;Kh 0 b<|Kf 0<|bw ab) fun b f g=>let i:=List.map aY<|[u]++aC p b;have j:=gI d.1 g;have:=aA j;have l:=(gG (enc:=aY) d.1 g).trans<|congrArg some<|aO b;have c:=c8 (J:=fun a _=>cQ p u.kids=cQ p a) (a:=c) g d.2;have:nU b<nU u:=iC<|aN d.1 g;have:(aC p b).length<=nU b:=ma b;Kt 0 j<|Mx l<|Ks 4 (be p b) (fun a=>Mp (ihy b (by exact aN d.1 g) a)<|Mg 6<|M2 .apl (et (by simp_all[jr]:List.map aY (aC p b)≠[])<|gi (sz:=8) (f:=aY) (fun _=>by(rw[aO];rfl))<|aC p b) (et (by(refine ar (m:=2^21) ?_ ?_ ?_<;>(try simp only[lM,lC,lN])<;>(have:=ma (p:=p) b;omega)):small (([AV.agg (uLx u)]).length+((aC p b).map aY).length) 120=true) rt)<|M1 (.obj 3<|aZ 8 true 0 i) (congrArg (aZ 8 true 0) (by(simp only[oJ,eg,wg,aO,ee]<;>rfl):[AV.agg (uLx u)]++List.map aY (aC p b)=List.map aY ([u]++aC p b)))<|Mg 0<|M2 (.fsl 0 [] 4 i) ti (cp (aJ 0) (tA aY ([u]++aC p b) (q++List.map aY (aC p b)).length (sA:([u]++aC p b).length=([AV.agg (uLx u)]++List.map aY (aC p b)).length))<|aX iZ<|[u]++aC p b)<|Ml 4 (eP i false<|aX iZ<|[u]++aC p b)<|Mf<|fg (by exact absurd (hs.symm.trans (Vb (by assumption) c (by omega))) (by grind):(AV.nils)=(AV.ls i))) fun c=>Mp (ihn b (by exact aN d.1 g) c)<|Kl 4 30 (dt a)<|K1 0 (.frz 2 [2,3,15,16,17]) (cp rt rt ti)<|Mf<|e (a+1) f () (et (cZ d.1 g)<|by grind[gc])<|gY g
  · have rr0:∀b',(h:((aC p u).map aY)=b':=by first|rfl|exact absurd (hs.symm.trans (Hv (by assumption) hj0)) (by decide)|(rw[tF (by assumption),eg,aO];rfl)|(rw[LK (by assumption) hj0 (by assumption)];rfl))->((aC p u).map aY)=b':=(fun _ h=>h);let q:=[ak (uLx u)];let q3:=[iV p.a,iV p.i,iV p.n];exact bp (hv:=(aX iZ (aC p u))) Tryz.func55 (Kv 5 (yB (d:=(Tryz.prog).underlying 35) (n:=3) (l:=(0,1)::(1,1)::(2,1)::[]) (xs:=[iV u.act,iV u.item,iV u.n]) (ys:=q3) (H:=aa [aZ 8 false 0 q,aZ 3 false 0 [ak q3]]) rfl (nP (e:=ay u.act p.a) rfl rfl rfl (nP (e:=ay u.item p.i) rfl rfl rfl (xd (e:=ay u.n p.n) rfl rfl rfl rfl)))) (Mb (ay u.act p.a&&(ay u.item p.i&&ay u.n p.n)) (fun h0=>Kf 2 ((Tn (rr0 q)):Le _ (j9 q true))) (fun h0=>Kl 2 16 (Le.len (f:=aY) (l:=u.kids)) (Mg 0 (ML (Nat×List TUnit×Unit) [2,3,15,16,17] (yT p u) (I7 p u) (fun x=>x.2.1.length) (0,u.kids,()) (aJ ((yT p u) (0,u.kids,()))) (et (rfl:List.drop 0 (u.kids)=u.kids) (by rfl:(cQ p u.kids=cQ p u.kids))) (fun x0 hx0 nx0=>Mc x0.2.1 (fun hr0=>have lt0:=gH hx0.1 hr0;have hj0:=jA (J:=fun r x=>cQ p u.kids=cQ p r) (a:=x0.2.2) hr0 hx0.2;(Kh 0 lt0 (Kf 0 (fg (by exact absurd (hs.symm.trans (Hv (by assumption) hj0)) (by grind):(AV.ps ((aC p u).map aY) false)=(AV.nils)))))) (fun w0 r0 hr0=>let q2:=List.map aY ([u]++aC p w0);have lt0:=gI hx0.1 hr0;have glt0:=aA lt0;have nt0:=(gG (enc:=aY) hx0.1 hr0).trans (congrArg some (aO w0));have hj0:=c8 (J:=fun r x=>cQ p u.kids=cQ p r) (a:=x0.2.2) hr0 hx0.2;have q0:nU w0<nU u:=iC (aN hx0.1 hr0);have q1:(aC p w0).length<=nU w0:=ma w0;(Kt 0 lt0 (Mx nt0 (Ks 4 (be p w0) (fun h2=>Mp (ihy w0 (by exact aN hx0.1 hr0) h2) (Mg 6 (M2 .apl (et (by simp_all[jr]:List.map aY (aC p w0)≠[]) (gi (sz:=8) (f:=aY) (fun _=>by(rw[aO];rfl)) (aC p w0))) (et (by(refine ar (m:=2^21) ?_ ?_ ?_<;>(try simp only[lM,lC,lN])<;>(have:=ma (p:=p) w0;omega)):small (([AV.agg (uLx u)]).length+((aC p w0).map aY).length) 120=true) rt) (M1 (.obj 3 (aZ 8 true 0 q2)) (congrArg (aZ 8 true 0) (by(simp only[oJ,eg,wg,aO,ee]<;>rfl):[AV.agg (uLx u)]++List.map aY (aC p w0)=List.map aY ([u]++aC p w0))) (Mg 0 (M2 (.fsl 0 [] 4 q2) ti (cp (aJ (0)) (Lv (f:=aY) (l:=[u]++aC p w0) (n:=(q++List.map aY (aC p w0)).length) (by simp_all:([u]++aC p w0).length=([AV.agg (uLx u)]++List.map aY (aC p w0)).length)) (aX iZ ([u]++aC p w0))) (Mf ((Tn (rr0 q2)):Le _ (j9 q2 false))))))))) (fun h2=>Mp (ihn w0 (by exact aN hx0.1 hr0) h2) (Kl 4 30 (Le.wr (x:=Int.ofNat x0.1+1) ei) (K1 0 (.frz 2 [2,3,15,16,17]) (cp rt rt ti) (Mf (nx0 (x0.1+1,r0,()) (et (cZ hx0.1 hr0) (by grind[gc]:(cQ p u.kids=cQ p r0))) (gY hr0))))))))))))))))
theorem LV(p:PId)(u:TUnit)(h:By (be p u) false)(hn:nU u<=2^20):kP 55 [eU u,aK p] .nils:=(FN p u hn).1 h
theorem FM(p:PId)(u:TUnit)(h:By (be p u) true)(hn:nU u<=2^20):kP 55 [eU u,aK p] (.ps ((aC p u).map aY) false):=(FN p u hn).2 h
theorem SN:kP 67 [.nils] .nils:=by
  exact wk Tryz.func67 (.go 4 .fin)<|bw ab
theorem SM:kP 67 [.ps [] false] (.ps [] true):=by
  exact wk Tryz.func67 (.go 7 .fin)<|bw<|j9 [] true
theorem SO(w:PWord)(r:List PWord)(hl:r.length<2^30):kP 67 [.ls ((w::r).map aQ)] (.ls ((w::r).map aQ)):=by
  let q:=List.map aQ (w::r);exact bp Tryz.func67<|Mg 1<|Mz 3 (fun(a:((w::r).map aQ:List AV)=[])=>Mw .abs<|ii _ _ a)<|Mg 3<|M2 .apl (et (sA:List.map aQ (w::r)≠[])<|fM 4 aQ (w::r) fun _=>rfl) (by(refine ar (m:=2^31) ?_ ?_ ?_<;>first|omega|grind):small ((w::r).map aQ).length 40=true)<|Mg 0<|M2 (.fsl 0 [] 2 q) ti (cp (aJ 0) (tA aQ (w::r) q.length (sA:(w::r).length=((w::r).map aQ).length))<|aX iH<|w::r)<|Ml 2 (eP q false<|aX iH<|w::r)<|Mf<|bw<|aW q
theorem N6(p:PId)(u:TUnit)(h:By (be p u) false)(hn:nU u<=2^20):kP 233 [eU u,.pptr [aK p] 0 0] (.bool false):=by
  have h':be p u=false:=h
  exact bp Tryz.func233<|Kp 3 (LV p u h hn)<|Kf 1<|bw<|eO false
theorem N5(p:PId)(u:TUnit)(h:By (be p u) true)(hn:nU u<=2^20):kP 233 [eU u,.pptr [aK p] 0 0] (.bool true):=by
  have h':be p u=true:=h
  exact bp Tryz.func233<|Kp 3 (FM p u h hn)<|Kf 1<|bw<|eO true
theorem abR(l:List TUnit)(g:Nat)(q:TUnit->Bool)(hp:∀k,k∈l->kP g [eU k] (.bool (q k)))(hl:l.length<2^40):kP 232 [.ls (l.map aY),.func (.func g) [] []] (iV (dX q l 0)):=by
  have rr0 b' (h:(dX q l 0)=b':=by first|exact ke zd0 hr0 hj0 ‹_› |exact hj0):=h;exact bp Tryz.func232<|Kl 2 7 (ln aY l)<|Mg 0<|td aY l [0,1,7,8] (fun a _=>([aW<|l.map aY,bj (bx g) [] [],nV l.length,nV a],[])) (fun a=>dX q l (0:Nat)=dX q a (l.length-a.length)) sA (fun _ _ zd0 _ hr0 a hj0=>Kh 0 a<|Kf 0<|li<|rr0 (-1)) fun a _ zd0 _ b c d hr0 e _ f hj0=>have f:=f.trans<|congrArg some<|aO b;Kt 0 e<|Kx 4 f<|Kp 0 (hp b<|by exact aN zd0 hr0)<|Mb (q b) (fun _=>Kf 1<|li<|rr0<|Int.ofNat a) fun _=>Kl 0 18 (dt a)<|Kf 0<|d<|by exact iE zd0 hr0 hj0 (by omega)
theorem abj(l:List TUnit)(g:Nat)(p:PId)(q:TUnit->Bool)(hp:∀k,k∈l->kP g [eU k,.pptr [aK p] 0 0] (.bool (q k)))(hl:l.length<2^40):kP 232 [.ls (l.map aY),.func (.func g) [] [.pptr [aK p] 0 0]] (iV (dX q l 0)):=by
  have rr0 b' (h:(dX q l 0)=b':=by first|exact ke zd0 hr0 hj0 ‹_› |exact hj0):=h;exact bp Tryz.func232<|Kl 2 7 (ln aY l)<|Mg 0<|td aY l [0,1,7,8] (fun a _=>([aW<|l.map aY,bj (bx g) [] [AV.pptr [ak [iV p.a,iV p.i,iV p.n]] 0 0],nV l.length,nV a],[])) (fun a=>dX q l (0:Nat)=dX q a (l.length-a.length)) sA (fun _ _ zd0 _ hr0 a hj0=>Kh 0 a<|Kf 0<|li<|rr0 (-1)) fun a _ zd0 _ b c d hr0 e _ f hj0=>have f:=f.trans<|congrArg some<|aO b;Kt 0 e<|Kx 4 f<|Kp 0 (hp b<|by exact aN zd0 hr0)<|Mb (q b) (fun _=>Kf 1<|li<|rr0<|Int.ofNat a) fun _=>Kl 0 18 (dt a)<|Kf 0<|d<|by exact iE zd0 hr0 hj0 (by omega)
theorem Sp{D a:Nat}{w:TUnit}{r:List TUnit}{u:TUnit}(h:D=Nat.max a (kM (w::r))/\a<=2^20)(q0:nU w<nU u)(q1:ny w<nU w)(hn:nU u<=2^20):D=Nat.max (Nat.max a (1+ny w)) (kM r)/\Nat.max a (1+ny w)<=2^20:=by
  grind[kM]
theorem VP{D a:Nat}(h:D=Nat.max a (kM [])/\a<=2^20):D=a:=by
  simp_all[Dg]
theorem IX:∀(u:TUnit),nU u<=2^20->kP 222 [eU u] (nV (ny u)):=by
  refine TUnit.ind fun u ih hn=>?_
  have hkl:=bm u
  have ihk:∀k,k∈u.kids->kP 222 [eU k] (nV (ny k)):=fun k hk=>ih k hk (bO (oS (iC hk)) hn)
  have rr0 b' (h:(Int.ofNat (ny u))=b':=by(rw[NQ,VP hj0])):=h;exact bp Tryz.func222<|Kl 5 8 (ln aY u.kids)<|Mg 0<|Pm aY u.kids (0:Nat) [3,7,8,9] (fun a _ b=>([nV b,aW<|u.kids.map aY,nV u.kids.length,nV a],[aZ 8 false 0 [ak (uLx u)]])) (fun a b=>kM u.kids=b.max (kM a)/\b<=2^20) sA (fun _ _ a _ _ _ b hj0=>Kh 0 b<|Kf 1<|li<|rr0<|Int.ofNat a) fun a _ b c d e f g i j _ l _=>have l:=(l).trans<|congrArg some<|aO e;have hj0:=c8 (J:=fun a b=>kM u.kids=b.max (kM a)/\b<=2^20) (a:=b) i d;have d:=iC<|aN c i;have m:=E3 e;Kt 0 j<|Mx l<|Kp 4 (ihk e<|by exact aN c i)<|Kl 0 16 (Le.wn (x:=(1:Int)+Int.ofNat (ny e)) (n:=(1:Nat)+ny e) ei)<|Kl 0 17 (pC (k:=IntKind.i64)<|XM b<|1+ny e)<|Kl 1 18 (i7 a)<|K1 0 (.frz 1 [3,7,8,9]) (et rt ti)<|Mf<|g (b.max<|1+ny e)<|by exact Sp hj0 d m hn
theorem MT(g:Nat)(q:TUnit->Bool):∀(u:TUnit),(∀x,x∈aT u->kP g [eU x] (.bool (q x)))->u.kids.length<2^40->(∀x,x∈aT u->x.kids.length<2^40)->kP 104 [eU u,.func (.func g) [] []] (.bool (wb q u)):=by
  refine TUnit.ind fun u ih hp hl hk=>?_
  have ihk:∀k,k∈u.kids->kP 104 [eU k,.func (.func g) [] []] (.bool (wb q k)):=fun k hm=>ih k hm (fun x hx=>hp x (bq hm hx)) (hk k (MK hm)) (fun x hx=>hk x (bq hm hx))
  have hs:=hp u (ch u)
  have rr0 b' (h:(wb q u)=b':=by first|(rw[yu];simp only[aS,ax,bS, *];done)|(rw[yu,hj0,PU])|(rw[yu,hj0,Bn];simp only[aS,ax,bS, *];done)):=h;exact bp Tryz.func104<|Kp 3 hs<|Kn 0 (q u) (fun _=>Ky 0<|rr0 false) fun _=>Kl 2 13 (ln aY u.kids)<|K1 0 (.frz 0 [1,12,13,14]) ti<|td aY u.kids [1,12,13,14] (fun a _=>([bj (bx g) [] [],aW<|u.kids.map aY,nV u.kids.length,nV a],[])) (fun a=>(q u&&(cA u.kids).all q)=(cA a).all q) (by(simp only[aS,ax,bS, *];done)) (fun _ _ _ _ _ a hj0=>Kh 0 a<|Ky 0<|rr0 true) fun a _ b _ c d e f i _ j hj0=>have j:=j.trans<|congrArg some<|aO c;Kt 0 i<|Mx j<|Kp 4 (ihk c<|by exact aN b f)<|Kn 0 (wb q c) (fun _=>Kf 0<|cb<|rr0 false) fun _=>Kl 0 22 (dt a)<|K1 0 (.frz 0 [1,12,13,14]) ti<|Mf<|e<|by simp_all[Bn]
theorem O0(u:TUnit)(n:Nat)(hn:n<2^40):kD 223 [eU u,.ptr 0 0 0 0] (aa [.row 1 false 0 [nV n]]) (.bool true) (aa [.row 1 false 0 [nV (n+1)]]):=by
  exact fS Tryz.func223 fun a=>Kl 3 5 (i7 n)<|K1 1 (.frz 1 [3]) (et rt ti)<|Mf a
theorem HI:∀(u:TUnit),∀(n:Nat),n+nU u<2^40->kD 104 [eU u,.func (.func 223) [] [.ptr 0 0 0 0]] (aa [.row 1 false 0 [nV n]]) (.bool true) (aa [.row 1 false 0 [nV (n+nU u)]]):=by
  refine TUnit.ind fun u ih n hn=>?_
  have hq:=jV u
  have hl:=bm u
  exact PN Tryz.func104<|K1 3 (.frz 1 [1,2,7,8]) (et rt ti)<|Me (O0 u n oA)<|Kl 4 13 (ln aY u.kids)<|Mg 0<|Pm aY u.kids (n+1) [1,12,13,14] (fun a _ b=>([bj (bx 223) [] [bX 0 0 0 0],aW<|u.kids.map aY,nV u.kids.length,nV a],[aZ 1 false 0 [nV b]])) (fun a b=>n+nU u=b+eW a/\b+eW a<2^40) oA (fun _ _ a _ _ _ b _=>Kh 0 b<|Kf 0<|et (aJ<|eO true) (by simp_all[mc]:(aa [AObj.row 1 false 0 [nV a]])=(aa [AObj.row 1 false 0 [nV (n+nU u)]]))) fun a _ b c _ d e f g h _ i _=>have i:=i.trans<|congrArg some<|aO d;have c:=aN c g;have g:b+nU d<2^40:=(by grind[bi]);Kt 0 h<|Mx i<|K1 4 (.frz 1 [1,12,13,14,18,19]) (et rt ti)<|Me (ih d c b g)<|Kl 2 22 (i7 a)<|Kf 0<|f (b+nU d)<|by grind[bi]
theorem E6(u:TUnit)(hn:nU u<2^39):kP 151 [eU u] (nV (nU u)):=by
  have rr0 b' (h:(Int.ofNat (nU u))=b':=by(rw[fL])):=h;exact bp Tryz.func151<|Mg 5<|M0 (.ren [1,0] [] [3,4,5])<|M1 (.frz 1 [3,4,5]) (et rt ti)<|Me (HI u 0 oA)<|Kf 1<|li<|rr0<|Int.ofNat<|0+nU u
noncomputable abbrev sZ(ep n:Nat):AObj:=.row 1 false 0 [.slice 1 ep 0 n none]
noncomputable abbrev N1(ep:Nat)(l:List PId):AObj:=.row 3 true ep (l.map aK)
theorem Yq(u:TUnit):kD 105 [eU u,.ptr 0 0 0 0] (aa [.row 1 false 0 [.nils]]) (.bool true) (aa [sZ 0 1,N1 0 [au u]]):=by
  exact wcq Tryz.func105 (.go 8<|.ren [0,2,1] [] [3]<|.frz 2 [3] .fin) fun a=>et (cp rt rt ti) a
theorem Yz(u:TUnit)(ep n:Nat)(l:List PId)(hn:n=l.length)(hl:l.length<2^30):kD 105 [eU u,.ptr 0 0 0 0] (aa [sZ ep n,N1 ep l]) (.bool true) (aa [sZ (ep+1) (n+1),N1 (ep+1) (l++[au u])]):=by
  exact fS Tryz.func105 fun a=>K1 5 .app (cp (aJ ep) (sA:n=(l.map aK).length) (by(refine ar (m:=2^31) ?_ ?_ ?_<;>omega):small (n+1) 24=true))<|M1 (.obj 1<|aZ 3 true (ep+1)<|(l++[PId.mk u.act u.item u.n]).map aK) (congrArg (aZ 3 true<|ep+1)<|dK (f:=aK) (l:=l) (ws:=[PId.mk u.act u.item u.n]))<|K1 1 (.frz 2 [3]) (cp (tR 3 true (ep+1) 2<|aX Kg<|l++[PId.mk u.act u.item u.n]) rt ti)<|Mf a
theorem OG:∀(u:TUnit),∀(ep n:Nat)(l:List PId),n=l.length->l.length+nU u<2^30->kC 104 [eU u,.func (.func 105) [] [.ptr 0 0 0 0]] (aa [sZ ep n,N1 ep l])
    (fun v h=>∃y:Nat×Nat×List PId,(y.2.1=y.2.2.length/\y.2.2=l++cD u)/\v=.bool true/\h=aa [sZ y.1 y.2.1,N1 y.1 y.2.2]):=by
  refine TUnit.ind fun u ih ep n l hn hl=>?_
  have hq:=jV u
  have hkl:=bm u
  exact qk Tryz.func104 fun a=>K1 3 (.frz 2 [1,2,7,8]) (cp (tR 3 true ep 2<|aX Kg l) rt ti)<|Me (Yz u ep n l hn oA)<|Kl 4 13 (ln aY u.kids)<|Mg 0<|Wh aY u.kids (ep+1) (n+1) (l++[au u]) [1,12,13,14] (fun a _ b c d=>([bj (bx 105) [] [bX 0 0 0 0],aW<|u.kids.map aY,nV u.kids.length,nV a],[aZ 1 false 0 [aI 1 b 0 c none],aZ 3 true b<|d.map aK])) (fun a _ b c=>b=c.length/\c++hJ a=l++[au u]++hJ u.kids/\c.length+eW a<2^30) gR (fun _ _ b c d _ _ _ e _=>Kh 0 e<|Kf 0<|a (b,c,d)<|by grind[ru,mf]) fun a _ b c d e f g i j k m _ o _=>have o:=(o).trans<|congrArg some<|aO g;have:=c8 (J:=fun a b=>b.2.1=b.2.2.length/\b.2.2++hJ a=l++[au u]++hJ u.kids/\b.2.2.length+eW a<2^30) (a:=(b,c,d)) k f;have e:=aN e k;have f:d.length+nU g<2^30:=(by grind[bi]);Kt 0 m<|Mx o<|K1 4 (.frz 2 [1,12,13,14,18,19]) (cp (tR 3 true b 2<|aX Kg d) rt ti)<|Mq (ih g e b c d oA f) fun b _=>Kl 2 22 (dt a)<|Kf 0<|j b.1 b.2.1 b.2.2<|by grind[bi,fD,uH]
theorem Wu(l:List PWord)(hl:l.length<=300)(hs:∀w,w∈l->w.text.length<=2^39):kP 329 [.ls (l.map aQ)] (.bool (oT l)):=by
  have hv:=Ls (l.map PWord.text) (by grind) (fun s hm=>by grind)
  have rr0 b' (h:(oT l)=b':=by(simp only[oT,aS,ax,bS, *])):=h;exact bp Tryz.func329<|Kl 3 7 (ln aQ l)<|Mg 0<|kR Nat Nat (List aH) aQ l [0,3,6,7,8] (fun a _=>([aW<|l.map aQ,ab,aW<|l.map aQ,nV l.length,nV a],[])) (fun a _ b c d=>([aW<|l.map aQ,aI 0 b 0 c none,aW<|l.map aQ,nV l.length,nV a],[aZ 1 true b<|d.map nw])) (fun a=>a=l) (fun a _ b c=>b=c.length/\(0:Nat)<c.length/\c++List.map PWord.text a=List.map PWord.text l/\c.length+a.length=l.length) (by rfl) (fun _ _ _ _ _ a _=>Kh 0 a<|Kl 1 19 (ln aQ l)<|Kd 1 256 (Int.ofNat l.length) (fun a _=>Kt 0 (cS a)<|Mp (aL.onArgs (.cons (Le.lsn (sA:((l.map PWord.text).map nw)=[])) .nil) hv:kP 236 [ab] _)<|MV (cS a)<|Kf 0<|cb<|rr0<|qm<|l.map PWord.text) fun a _=>Mh (cE a)<|My (cE a)<|Kf 0<|cb<|rr0 false) (fun a _ _ _ b c _ d _ e _ f g=>Kt 0 e<|Mx f<|Kl 9 17 (i7 a)<|Mg 0<|M0 (.ren [1,0] [] [0,3,6,7,8])<|M1 (.frz 1 [0,3,6,7,8]) (et rt ti)<|Mf<|d 0 1 [b.text]<|by(refine⟨rfl,by simp,?_,?_⟩<;>(rw[<-g])<;>(first|rfl|grind))) (fun _ _ a b c _ _ _ d _=>Kh 0 d<|Kl 1 19 (ln aQ l)<|Kd 1 256 (Int.ofNat l.length) (fun d _=>Mg 0<|M2 (.fsl 0 [21] 22<|c.map nw) ti (cp (aJ a) (tA nw c b (oA:(c).length=b))<|aX Kk c)<|Ml 22 (eP (c.map nw) false<|aX Kk c)<|Mt (cS d)<|Mp (aL.onArgs (.cons (cY (sA:((l.map PWord.text).map nw)=(c.map nw))) .nil) hv:kP 236 [aW (c.map nw)] _)<|MV (cS d)<|Kf 0<|cb<|rr0<|qm<|l.map PWord.text) fun a _=>Mh (cE a)<|My (cE a)<|Kf 0<|cb<|rr0 false) fun a _ b c d _ _ e f _ g _ i _ j k=>Kt 0 i<|Mx j<|K1 6 .app (cp (aJ b) (sA:c=(d.map nw).length) (by(refine ar (m:=2^20) ?_ ?_ ?_<;>omega):small (c+1) 16=true))<|M1 (.obj 0<|aZ 1 true (b+1)<|(d++[e.text]).map nw) (congrArg (aZ 1 true<|b+1)<|dK (f:=nw) (l:=d) (ws:=[e.text]))<|Kl 1 17 (i7 a)<|K1 0 (.frz 1 [0,3,6,7,8]) (et (tR 1 true (b+1) 1<|aX Kk<|d++[e.text]) ti)<|Mf<|g (b+1) (c+1) (d++[e.text])<|by(refine⟨by simp_all,by simp,?_,?_⟩<;>first|(rw[<-k.2.2.1];simp;done)|grind)
theorem pY(a b:Nat):Int.ofNat (a+b)=Int.ofNat a+Int.ofNat b:=rfl
theorem Tw(u:TUnit)(h1:u.head.length<=300)(h2:u.words.length<=300)(h3:u.kids.length<2^30)(h4:u.label.length<=2^39)(h5:∀w,w∈u.head->w.text.length<=2^39)(h6:∀w,w∈u.words->w.text.length<=2^39):kP 309 [eU u] (.bool (mq u)):=by
  have hlk:∀(m:List ((Int×aH)×Bool))(a:Int)(s:aH),e9 (some (.bool false)) false (bv true 2 [(0,1),(1,2)] (.agg [iV a,.str s]) (bB pN dw m 0) 0)=some (.bool (Pg nY (a,s) m)):=fun m a s=>GT MY m (a,s)
  have hup:∀(m:List ((Int×aH)×Bool))(a:Int)(s:aH),rT (bB pN dw m 0) m.length (.agg [iV a,.str s]) (.bool true) (bv true 2 [(0,1),(1,2)] (.agg [iV a,.str s]) (bB pN dw m 0) 0)=some (bB pN dw (fH nY (a,s) true m) 0,(fH nY (a,s) true m).length):=fun m a s=>LU MY m (a,s)
  have r1:=Wu u.head h1 h5
  have r2:=Wu u.words h2 h6
  have r3:=ur u.label h4
  have rr0 b' (h:(mq u)=b':=by first|(rw[mq,hj0,nZ];simp only[En,bQ,pY,cond_true,cond_false,aS,ax,bS,yI,Bool.false_and,Bool.not_true,CV,Bool.true_and, *];first|done|rfl)|(simp only[mq,En,bQ,pY,cond_true,cond_false,aS,ax,bS, *];done)|(simp only[mq,nZ,En,bQ,pY,cond_true,cond_false,aS,ax,bS, *];done)|(simp only[mq,nZ,En,bQ,pY,cond_true,cond_false,aS,ax,bS,yI,Bool.false_and,Bool.not_true,CV,Bool.true_and, *];first|done|rfl)):=h;exact bp Tryz.func309<|Kj 4 u.kind 0 (fun _ b=>Kn 3 (dM u.label (ByteArray.mk #[]).data.toList) (fun b=>Mt (cS b)<|Mt (cS b)<|Mt (cS b)<|Mt (cS b)<|Mt (cS b)<|Mt (cS b)<|Mt (cS b)<|MV (cS b)<|Ky 1<|rr0 false) fun c=>Kh 0 (cE c)<|Kh 0 (cE c)<|Kl 0 16 (ln aQ u.head)<|Mh (cE c)<|Kh 0 (cE c)<|Kh 0 (cE c)<|Kl 0 19 (ln aQ u.words)<|Mh (cE c)<|Kl 0 20 (Le.wr (x:=Int.ofNat u.head.length+Int.ofNat u.words.length) ei)<|Mh (cE c)<|Kw 0 (cE c)<|Mb (aB 0<|Int.ofNat u.head.length+Int.ofNat u.words.length) (fun b=>have:=aA b;Ky 0<|rr0 false) fun c=>have:=aF c;Kl 4 48 (ln aY u.kids)<|Mg 0<|Pm aY u.kids ([]:List ((Int×aH)×Bool)) [1,3,47,48,49] (fun b _ c=>([bX 0 0 0 0,AV.map 1,aW<|u.kids.map aY,nV u.kids.length,nV b],[aZ 8 false 0 [ak (uLx u)],AObj.map (bB pN dw c 0) c.length])) (fun b c=>nZ u.kind u.kids []=nZ u.kind b c) (by rfl) (fun _ _ _ _ _ _ b hj0=>Kh 0 b<|Kl 2 74 (ln aY u.kids)<|Kf 1<|cb<|rr0<|ax<|aB 64<|Int.ofNat u.kids.length) fun c _ d _ _ e f g _ i _ j hj0=>have j:=j.trans<|congrArg some<|aO e;Kt 0 i<|Mx j<|Kl 11 59 (pC (k:=IntKind.i64) b)<|Kp 1 (z8 0 e.kind)<|Kn 1 (jz 0 e.kind) (fun b=>Mt (cS b)<|Mt (cS b)<|MV (cS b)<|Ky 1<|rr0 false) fun b=>Kh 0 (cE b)<|Kh 0 (cE b)<|M1 (.look<|eO<|Pg nY (e.kind,e.label) d) (hlk d e.kind e.label)<|My (cE b)<|Mb (Pg nY (e.kind,e.label) d) (fun _=>Kf 0<|cb<|rr0 false) fun _=>K1 1 (.upd (bB pN dw (fH nY (e.kind,e.label) true d) 0) (fH nY (e.kind,e.label) true d).length) (hup d e.kind e.label)<|Kl 0 71 (dt c)<|K1 0 (.frz 2 [1,3,47,48,49]) (cp (tM (fH nY (e.kind,e.label) true d).length 2 (by exact cw MY A6 _ _:fx (bB pN dw (fH nY (e.kind,e.label) true d) 0)=0)) rt ti)<|Mf<|g (fH nY (e.kind,e.label) true d)<|by(rw[hj0,nZ];simp only[aS,ax,bS, *];done)) fun _ _=>Kp 1 (xV u.kind)<|Kb 1 (dM (dW u.kind) (ByteArray.mk #[]).data.toList) (fun b=>Mt b<|Mt b<|Mt b<|MV b<|Ky 5<|rr0 false) fun b=>Kh 0 b<|Kh 0 b<|Mp r3<|Mh b<|Kw 0 b<|Kn 0 (ka u.label) (fun b=>Mt (cS b)<|Mt (cS b)<|Mt (cS b)<|MV (cS b)<|Ky 3<|rr0 false) fun b=>Kh 0 (cE b)<|Kh 0 (cE b)<|Mp r1<|Mh (cE b)<|Kw 0 (cE b)<|Kn 0 (oT u.head) (fun b=>Mt (cS b)<|Mt (cS b)<|Mt (cS b)<|MV (cS b)<|Ky 1<|rr0 false) fun b=>Kh 0 (cE b)<|Kh 0 (cE b)<|Mp r2<|Mh (cE b)<|Kw 0 (cE b)<|Mn (oT u.words) (fun _=>Ky 0<|rr0 false) fun _=>Kl 4 48 (ln aY u.kids)<|Mg 0<|Pm aY u.kids ([]:List ((Int×aH)×Bool)) [1,3,47,48,49] (fun b _ c=>([bX 0 0 0 0,AV.map 1,aW<|u.kids.map aY,nV u.kids.length,nV b],[aZ 8 false 0 [ak (uLx u)],AObj.map (bB pN dw c 0) c.length])) (fun b c=>nZ u.kind u.kids []=nZ u.kind b c) (by rfl) (fun _ _ _ _ _ _ b hj0=>Kh 0 b<|Kl 2 74 (ln aY u.kids)<|Kf 1<|cb<|rr0<|ax<|aB 64<|Int.ofNat u.kids.length) fun b _ c _ _ d e f _ g _ i hj0=>have i:=i.trans<|congrArg some<|aO d;Kt 0 g<|Mx i<|Kp 13 (z8 u.kind d.kind)<|Kn 1 (jz u.kind d.kind) (fun b=>Mt (cS b)<|Mt (cS b)<|MV (cS b)<|Ky 1<|rr0 false) fun g=>Kh 0 (cE g)<|Kh 0 (cE g)<|M1 (.look<|eO<|Pg nY (d.kind,d.label) c) (hlk c d.kind d.label)<|My (cE g)<|Mb (Pg nY (d.kind,d.label) c) (fun _=>Kf 0<|cb<|rr0 false) fun _=>K1 1 (.upd (bB pN dw (fH nY (d.kind,d.label) true c) 0) (fH nY (d.kind,d.label) true c).length) (hup c d.kind d.label)<|Kl 0 71 (dt b)<|K1 0 (.frz 2 [1,3,47,48,49]) (cp (tM (fH nY (d.kind,d.label) true c).length 2 (by exact cw MY A6 _ _:fx (bB pN dw (fH nY (d.kind,d.label) true c) 0)=0)) rt ti)<|Mf<|f (fH nY (d.kind,d.label) true c)<|by(rw[hj0,nZ];simp only[aS,ax,bS, *];done)
theorem KZ(u:TUnit)(hl:nU u<2^29):kC 104 [eU u,.func (.func 105) [] [.ptr 0 0 0 0]] (aa [.row 1 false 0 [.nils]])
    (fun v h=>∃y:Nat×Nat×List PId,(y.2.1=y.2.2.length/\y.2.2=cD u)/\v=.bool true/\h=aa [sZ y.1 y.2.1,N1 y.1 y.2.2]):=by
  have hq:=jV u
  have hkl:=bm u
  exact qk Tryz.func104 fun a=>K1 3 (.frz 1 [1,2,7,8]) (et rt ti)<|Me (Yq u)<|Kl 4 13 (ln aY u.kids)<|Mg 0<|Wh aY u.kids (0:Nat) (1:Nat) ([au u]:List PId) [1,12,13,14] (fun a _ b c d=>([bj (bx 105) [] [bX 0 0 0 0],aW<|u.kids.map aY,nV u.kids.length,nV a],[aZ 1 false 0 [aI 1 b 0 c none],aZ 3 true b<|d.map aK])) (fun a _ b c=>b=c.length/\c++hJ a=[au u]++hJ u.kids/\c.length+eW a<2^30) gR (fun _ _ b c d _ _ _ e f=>Kh 0 e<|Kf 0<|a (b,c,d)<|by(refine⟨f.1,?_⟩;have:=f.2.1;rw[ru,ef]at this;rw[this,mf];rfl)) fun a _ b c d e f g i j k l _ m _=>have m:=(m).trans<|congrArg some<|aO g;have:=c8 (J:=fun a b=>b.2.1=b.2.2.length/\b.2.2++hJ a=[au u]++hJ u.kids/\b.2.2.length+eW a<2^30) (a:=(b,c,d)) k f;have:=aN e k;have e:d.length+nU g<2^30:=(by grind[bi]);Kt 0 l<|Mx m<|K1 4 (.frz 2 [1,12,13,14,18,19]) (cp (tR 3 true b 2<|aX Kg d) rt ti)<|Mq (OG g b c d oA e) fun b _=>Kl 2 22 (dt a)<|Kf 0<|j b.1 b.2.1 b.2.2<|by grind[bi,fD,uH]
theorem Hz(u:TUnit)(hl:nU u<2^29):kP 76 [eU u] (.ls ((cD u).map aK)):=by
  have rr0 b' (h:((cD u).map aK)=b':=by(rw[hy0.2])):=h;exact bp Tryz.func76<|Mg 4<|M0 (.ren [1,0] [] [3,4,5])<|M1 (.frz 1 [3,4,5]) (et rt ti)<|Mq (KZ u hl) fun a hy0=>Mg 1<|M2 (.fsl 0 [] 2<|a.2.2.map aK) ti (cp (aJ a.1) (tA aK a.2.2 a.2.1 (oA:(a.2.2).length=a.2.1))<|aX Kg a.2.2)<|Ml 2 (eP (a.2.2.map aK) false<|aX Kg a.2.2)<|Mf<|cY<|rr0<|a.2.2.map aK
theorem YU(u:TUnit)(hl:nU u<2^20):kP 310 [eU u] (.bool (RF u)):=by
  have hb:(cD u).length<2^20:=by grind[uH]
  have hi:=Hz u (by omega)
  have hlk:∀(m:List (PId×Bool))(a b c:Int),e9 (some (.bool false)) false (bv true 3 [(0,1),(1,1),(2,1)] (.agg [iV a,iV b,iV c]) (bB aK dw m 0) 0)=some (.bool (Pg bK ⟨a,b,c⟩ m)):=fun m a b c=>GT JN m ⟨a,b,c⟩
  have hup:∀(m:List (PId×Bool))(a b c:Int),rT (bB aK dw m 0) m.length (.agg [iV a,iV b,iV c]) (.bool true) (bv true 3 [(0,1),(1,1),(2,1)] (.agg [iV a,iV b,iV c]) (bB aK dw m 0) 0)=some (bB aK dw (fH bK ⟨a,b,c⟩ true m) 0,(fH bK ⟨a,b,c⟩ true m).length):=fun m a b c=>LU JN m ⟨a,b,c⟩
  have rr0 b' (h:(RF u)=b':=by((try clear gh1);(try clear gh2);(try clear gh3);(try clear gh4);(try clear gh5);(try clear gh6);(try clear gh7);have e:=Dd (kenc:=aK) (f:=dw) za0 0;simp only[e,lM]at *;simp only[RF,fI,bK,au,bT,hj0,NF,aS,ax,bS, *];first|done|rfl)):=h;exact bp Tryz.func310<|Kp 2 hi<|Kl 4 12 (ln aK<|cD u)<|Mg 0<|Pm aK (cD u) ([]:List (PId×Bool)) [1,3,4,11,12,13] (fun d _ g=>([bX 0 0 0 0,aW<|(cD u).map aK,AV.map 1,aW<|(cD u).map aK,nV (cD u).length,nV d],[aZ 8 false 0 [ak (uLx u)],AObj.map (bB aK dw g 0) g.length])) (fun d g=>Cs (cD u) []=Cs d g) (by rfl) (fun _ _ za0 _ _ _ d hj0=>Kh 0 d<|K1 1 (.look<|eO<|Pg bK (PId.mk 0 0 0) za0) (hlk za0 0 0 0)<|Kb 2 (Pg bK (PId.mk 0 0 0) za0) (fun d=>Kt 0 d<|Kt 0 d<|Ku 0 d<|Kj 0 (Int.ofNat (bB aK dw za0 0).length) 1 (fun d gh2=>Mt d<|Mt d<|Mt d<|Mt d<|Mt d<|Mt d<|MV d<|Ky 0<|rr0 true) fun d gh2=>Kh 0 d<|Kh 0 d<|Kh 0 d<|Kh 0 d<|Kh 0 d<|Kj 0 (Int.ofNat (bB aK dw za0 0).length) (Int.ofNat ((cD u).map aK).length) (fun g gh3=>Kt 0 g<|Kt 0 g<|Kt 0 g<|Kt 0 g<|Kt 0 g<|Kt 0 g<|Mv (lV ((Tryz.prog).underlying 35) u.act u.item u.n 0 0 0 h0)<|Mt g<|Kh 0 d<|MV g<|My d<|Kf 0<|cb<|rr0<|ay u.kind 0==(ay u.act 0&&(ay u.item 0&&ay u.n 0))) fun g gh3=>Mh g<|Mh g<|Mh g<|Mh g<|Mh g<|Mh g<|Mh g<|Mh d<|My g<|My d<|Ky 0<|rr0 false) fun d=>Mh d<|Mh d<|My d<|Kj 6 (Int.ofNat (bB aK dw za0 0).length) (Int.ofNat ((cD u).map aK).length) (fun d gh4=>Kt 0 d<|Kt 0 d<|Kt 0 d<|Kt 0 d<|Kt 0 d<|Kt 0 d<|Mv (lV ((Tryz.prog).underlying 35) u.act u.item u.n 0 0 0 h0)<|Mt d<|Ku 0 d<|Kf 1<|cb<|rr0<|ay u.kind 0==(ay u.act 0&&(ay u.item 0&&ay u.n 0))) fun d gh4=>Mh d<|Mh d<|Mh d<|Mh d<|Mh d<|Mh d<|Mh d<|My d<|Ky 1<|rr0 false) fun d _ za0 _ _ g i j _ k _ l hj0=>Kt 0 k<|Mx l<|K1 4 (.upd (bB aK dw (fH bK (PId.mk g.a g.i g.n) true za0) 0) (fH bK (PId.mk g.a g.i g.n) true za0).length) (hup za0 g.a g.i g.n)<|Kl 0 19 (i7 d)<|K1 0 (.frz 2 [1,3,4,11,12,13]) (cp (tM (fH bK (PId.mk g.a g.i g.n) true za0).length 2 (by exact cw JN A6 _ _:fx (bB aK dw (fH bK (PId.mk g.a g.i g.n) true za0) 0)=0)) rt ti)<|Mf<|j (fH bK (PId.mk g.a g.i g.n) true za0)<|by(rw[hj0];rfl)
def sx(x:TUnit):Prop:=x.head.length<=300/\x.words.length<=300/\x.label.length<=2^39/\(∀w,w∈x.head->w.text.length<=2^39)/\∀w,w∈x.words->w.text.length<=2^39
def my(u:TUnit):Prop:=nU u<=2^19/\∀x,x∈aT u->sx x
theorem HL(u:TUnit)(h:my u):kP 104 [eU u,.func (.func 309) [] []] (.bool (wb mq u)):=
  MT 309 mq u
    (fun x hx=>by
      obtain⟨a,b,c,d,e⟩:=h.2 x hx
      have h1:=bm x
      have h2:=dD hx
      have h3:=h.1
      grind[Tw])
    (by have h1:=bm u;have h3:=h.1;omega)
    (fun x hx=>by
      have h1:=bm x
      have h2:=dD hx
      have h3:=h.1
      omega)
theorem yQ(u:TUnit)(h:my u):kP 271 [eU u] (.bool (kT u)):=by
  have h1:=h.1
  have e1:=HL u h
  have e2:=IX u (by omega)
  have e3:=E6 u (by omega)
  have e4:=YU u (by omega)
  have hd:=E3 u
  have rr0 b' (h:(kT u)=b':=by(simp only[kT,aS,ax,bS, *];done)):=h;exact bp Tryz.func271<|Kp 2 e1<|Kb 0 (wb mq u) (fun a=>Kt 0 a<|Mp e2<|Mt a<|Ku 0 a<|Kn 0 (aB 8<|Int.ofNat<|ny u) (fun a=>Kt 0 (cS a)<|Mp e3<|Mt (cS a)<|Ku 0 (cS a)<|Kn 0 (aB 1024<|Int.ofNat<|nU u) (fun a=>Kt 0 (cS a)<|Mp e4<|MV (cS a)<|Kf 0<|cb<|rr0<|RF u) fun a=>Mh (cE a)<|My (cE a)<|Ky 0<|rr0 false) fun a=>Mh (cE a)<|Mh (cE a)<|My (cE a)<|Ky 2<|rr0 false) fun a=>Mh a<|Mh a<|My a<|Ky 4<|rr0 false
theorem rG(l:List PWord)(hl:l.length<2^30):kP 67 [.ls (l.map aQ)] (.ls (l.map aQ)):=by
  cases l with
  |nil=>exact aL.ls0 (SN.less Le.nils) (SM.lessB (u:=.ls []) (by kernel_rfl))
  |cons w r=>grind[SO]
noncomputable abbrev wt:AObj:=.row 8 false 0 [.agg [iV 0,iV 0,iV 0,iV 0,.str [],.nils,.nils,.nils]]
theorem IU:∀(u:TUnit),nU u<=2^20->(∀x,x∈aT u->x.head.length<2^30/\x.words.length<2^30)->kP 56 [eU u] (eU u):=by
  refine TUnit.ind fun u ih hn ht=>?_
  have hkl:=bm u
  have c1:=rG u.head (ht u (ch u)).1
  have c2:=rG u.words (ht u (ch u)).2
  have ihk:∀k,k∈u.kids->kP 56 [eU k] (eU k):=fun k hk=>ih k hk (bO (oS (iC hk)) hn) (fun x hx=>ht x (bq hk hx))
  have rr0 b' (h:(u.kids.map aY)=b':=by first|rfl|(rw[<-hj0];rfl)|(rw[<-hj0.2.2.1,ef])):=h;let q1:=List.map aQ u.words;let q2:=List.map aQ u.head;exact bp Tryz.func56<|Kp 3 c1<|Kp 1 c2<|Kl 7 16 (ln aY u.kids)<|Mg 0<|kR Nat Nat (List TUnit) aY u.kids [1,2,3,15,16,17] (fun a _=>([bX 0 0 0 0,bX 1 0 0 0,ab,aW<|u.kids.map aY,nV u.kids.length,nV a],[aZ 8 false 0 [ak (uLx u)],aZ 8 false 0 [ak [iV 0,iV 0,iV 0,iV 0,aj [],ab,ab,ab]]])) (fun a _ b c d=>([bX 0 0 0 0,bX 1 0 0 0,aI 2 b 0 c none,aW<|u.kids.map aY,nV u.kids.length,nV a],[aZ 8 false 0 [ak (uLx u)],aZ 8 false 0 [ak [iV 0,iV 0,iV 0,iV 0,aj [],ab,ab,ab]],aZ 8 true b<|d.map aY])) (fun a=>a=u.kids) (fun a _ b c=>b=c.length/\(0:Nat)<c.length/\c++a=u.kids/\c.length+a.length=u.kids.length) (by rfl) (fun _ _ _ _ _ a hj0=>Kh 0 a<|Kl 0 27 bD<|Kf 3 (aP (lc<|lc<|lc<|lc<|lc<|lc<|lc<|.cons (cY<|rr0 []) .nil)<|by kernel_rfl:Le _ (AV.agg [iV u.act,iV u.item,iV u.n,iV u.kind,AV.str u.label,AV.ls q2,AV.ls q1,AV.ls []]))) (fun a _ _ b c d _ e f g _ i _=>have i:=(i).trans<|congrArg some<|aO c;have hj0:=c8 (J:=fun a _=>a=u.kids) (a:=()) f b;Kt 0 g<|Mx i<|Kp 4 (ihk c gR)<|K1 1 (.obj 3<|aZ 8 true 0<|List.map aY [c]) (congrArg (aZ 8 true 0)<|UT (f:=aY) (g:=Go.Ev.eU) (ws:=[c]) aO)<|Kl 1 26 (dt a)<|K1 0 (.ren [0,1,3,2] [3] [1,2,3,15,16,17]) (tS 8 true 0<|aX iZ [c])<|M1 (.frz 3 [1,2,3,15,16,17]) (js (tR 8 true 0 3<|aX iZ [c]) rt rt ti)<|Mf<|e 0 1 [c]<|by(refine⟨rfl,by simp,?_,?_⟩<;>(rw[<-hj0])<;>(first|rfl|grind))) (fun _ _ a b c _ _ _ d hj0=>let e:=List.map aY c;Kh 0 d<|Mg 0<|M2 (.fsl 2 [1,2] 27 e) (cp rt rt ti) (cp (aJ a) (tA aY c b (oA:(c).length=b))<|aX iZ c)<|Ml 27 (eP e false<|aX iZ c)<|Kf 3 (aP (lc<|lc<|lc<|lc<|lc<|lc<|lc<|.cons (cY<|rr0 e) .nil)<|by kernel_rfl:Le _ (AV.agg [iV u.act,iV u.item,iV u.n,iV u.kind,AV.str u.label,AV.ls q2,AV.ls q1,AV.ls e]))) fun a _ b c d _ e f g _ i j l _ n _=>have n:=(n).trans<|congrArg some<|aO f;have hj0:=c8 (J:=fun a b=>b.2.1=b.2.2.length/\(0:Nat)<b.2.2.length/\b.2.2++a=u.kids/\b.2.2.length+a.length=u.kids.length) (a:=(b,c,d)) j e;Kt 0 l<|Mx n<|Kp 4 (ihk f gR)<|K1 0 .app (cp (aJ b) (sA:c=(d.map aY).length) (by(refine ar (m:=2^21) ?_ ?_ ?_<;>omega):small (c+1) 120=true))<|M1 (.obj 2<|aZ 8 true (b+1)<|(d++[f]).map aY) (congrArg (aZ 8 true<|b+1)<|ya (f:=aY) (g:=Go.Ev.eU) (l:=d) (ws:=[f]) aO)<|Kl 1 26 (dt a)<|K1 0 (.frz 3 [1,2,3,15,16,17]) (js (tR 8 true (b+1) 3<|aX iZ<|d++[f]) rt rt ti)<|Mf<|i (b+1) (c+1) (d++[f])<|by(refine⟨by simp_all,by simp,?_,?_⟩<;>first|(rw[<-hj0.2.2.1];simp;done)|grind)
theorem Ye(p:PId)(u:TUnit)(h:By (be p u) true)(hn:nU u<=2^20)(ht:∀x,x∈aT u->x.head.length<2^30/\x.words.length<2^30):kP 24 [eU u,aK p] (.tuple [eU (bG p u),.bool true]):=by
  have hw:=FM p u h hn
  have hlen:=ma (p:=p) u
  have hpos:0<(aC p u).length:=qU.2 (jr h)
  have hm:bG p u∈aT u:=LY u _ (SU h)
  have hf:bG p u=gD (aC p u) ((aC p u).length -1):=by unfold bG;simp_all
  have hc:=IU (bG p u) (bO (dD hm) hn) (fun x hx=>ht x (by
    grind[cn]))
  rw[hf]at hc ⊢
  have hz:=Se hpos
  exact bp Tryz.func24<|Kp 5 hw<|Kl 2 11 (ln aY<|aC p u)<|Kh 0 hz<|Kl 2 16 (ln aY<|aC p u)<|Kl 0 17 (Fl (aC p u).length)<|Mx ((aR aY (oA:(aC p u).length -1<(aC p u).length)).trans<|congrArg some<|aO _)<|Kp 0 hc<|Kf 1<|bw<|cK [ak [iV (gD (aC p u)<|(aC p u).length -1).act,iV (gD (aC p u)<|(aC p u).length -1).item,iV (gD (aC p u)<|(aC p u).length -1).n,iV (gD (aC p u)<|(aC p u).length -1).kind,aj (gD (aC p u)<|(aC p u).length -1).label,aW<|List.map aQ (gD (aC p u)<|(aC p u).length -1).head,aW<|List.map aQ (gD (aC p u)<|(aC p u).length -1).words,aW<|List.map aY (gD (aC p u)<|(aC p u).length -1).kids],eO true]
theorem Yg(p:PId)(u:TUnit)(h:By (be p u) false)(hn:nU u<=2^20):kP 24 [eU u,aK p] (.tuple [eU bd,.bool false]):=by
  have hw:=LV p u h hn
  exact bp Tryz.func24<|Kp 5 hw<|Kf 7 (cL<|.cons (aP (lc<|lc<|lc<|lc<|lc<|.cons bD<|.cons bD<|.cons bD .nil)<|by kernel_rfl)<|lc .nil:Le _ (cK [ak [iV 0,iV 0,iV 0,iV 0,aj [],ab,ab,ab],eO false]))
theorem SY(p:PId)(u:TUnit)(hn:nU u<=2^20)(ht:∀x,x∈aT u->x.head.length<2^30/\x.words.length<2^30):kP 24 [eU u,aK p] (.tuple [eU (bG p u),.bool (be p u)]):=by
  cases h:be p u with
  |true=>grind[Ye]
  | false=>
    have:=Yg p u h hn
    rwa[show bd=bG p u by unfold bG;simp_all]at this
theorem ifW(l:List PWord)(g:Nat)(q:PWord->Bool)(hp:∀k,k∈l->kP g [aQ k] (.bool (q k)))(hl:l.length<2^40):kP 311 [.ls (l.map aQ),.func (.func g) [] []] (iV (dX q l 0)):=by
  have rr0 b' (h:(dX q l 0)=b':=by first|exact ke zd0 hr0 hj0 ‹_› |exact hj0):=h;exact bp Tryz.func311<|Kl 2 7 (ln aQ l)<|Mg 0<|td aQ l [0,1,7,8] (fun a _=>([aW<|l.map aQ,bj (bx g) [] [],nV l.length,nV a],[])) (fun a=>dX q l (0:Nat)=dX q a (l.length-a.length)) sA (fun _ _ zd0 _ hr0 a hj0=>Kh 0 a<|Kf 0<|li<|rr0 (-1)) fun a _ zd0 _ b c d hr0 e _ f hj0=>Kt 0 e<|Kx 4 f<|Kp 0 (hp b<|by exact aN zd0 hr0)<|Mb (q b) (fun _=>Kf 1<|li<|rr0<|Int.ofNat a) fun _=>Kl 0 18 (dt a)<|Kf 0<|d<|by exact iE zd0 hr0 hj0 (by omega)
theorem cfW(l:List PWord)(g:Nat)(q:PWord->Bool)(hp:∀k,k∈l->kP g [aQ k] (.bool (q k)))(hl:l.length<2^40):kP 274 [.ls (l.map aQ),.func (.func g) [] []] (.bool (l.any q)):=by
  have h:=ifW l g q hp hl
  have rr0 b' (h:(l.any q)=b':=by(rw[jg];simp only[aS,ax,bS,mJ])):=h;exact bp Tryz.func274<|Kp 2 h<|Kf 1<|cb<|rr0<|ax<|aB (dX q l 0) 0
theorem C4(w:PWord):kP 273 [aQ w] (.bool (px w)):=by
  exact bp Tryz.func273<|Kv 4 (GL ((Tryz.prog).underlying 125) w.act w.item w.at_ 0 0 0<|aa [aZ 4 false 0 [ak [aj w.text,iV w.act,iV w.item,iV w.at_]]])<|Kf 0<|bw<|eO<|ax<|ay w.act 0&&(ay w.item 0&&ay w.at_ 0)
theorem S8(u:TUnit)(h1:u.head.length<2^40)(h2:u.words.length<2^40):kP 272 [eU u] (.bool (DC u)):=by
  have c1:=cfW u.head 273 px (fun k _=>C4 k) h1
  have c2:=cfW u.words 273 px (fun k _=>C4 k) h2
  have rr0 b' (h:(DC u)=b':=by(simp only[DC,fI,bK,au,bT,aS,ax,bS, *];first|done|rfl)):=h;exact bp Tryz.func272<|Kv 5 (lV ((Tryz.prog).underlying 35) u.act u.item u.n 0 0 0<|aa [aZ 8 false 0 [ak (uLx u)]])<|Kb 0 (ay u.act 0&&(ay u.item 0&&ay u.n 0)) (fun a=>Kt 0 a<|Kt 0 a<|Kt 0 a<|Mp c1<|Mt a<|Ku 0 a<|Kn 0 (u.head.any px) (fun a=>Kt 0 (cS a)<|Kt 0 (cS a)<|Kt 0 (cS a)<|Mp c2<|Mt (cS a)<|Ku 0 (cS a)<|Kf 0<|cb<|rr0<|ax<|u.words.any px) fun a=>Mh (cE a)<|Mh (cE a)<|Mh (cE a)<|Mh (cE a)<|My (cE a)<|Ky 0<|rr0 false) fun a=>Mh a<|Mh a<|Mh a<|Mh a<|My a<|Ky 2<|rr0 false
theorem Y4(u:TUnit)(h:my u):kP 235 [eU u] (.bool (Ip u)):=by
  have e1:=yQ u h
  have e2:=MT 272 DC u (fun x hx=>by
      obtain⟨a,b,_⟩:=h.2 x hx
      grind[S8]) (by have h1:=bm u;have h3:=h.1;omega) (fun x hx=>by
      have h1:=bm x
      have h2:=dD hx
      have h3:=h.1
      omega)
  have rr0 b' (h:(Ip u)=b':=by(simp only[Ip,aS,ax,bS, *];first|done|rfl)):=h;exact bp Tryz.func235<|Kp 2 e1<|Kb 0 (kT u) (fun c=>Kt 0 c<|Mp e2<|MV c<|Kf 0<|cb<|rr0<|wb DC u) fun c=>Mh c<|My c<|Ky 0<|rr0 false
theorem N4(p:PId)(u:TUnit)(hh:be p u=false)(hn:nU u<=2^20):kP 164 [eU u,aK p] (.tuple [aK bT,iV (-1),.bool false]):=by
  have hw:=LV p u hh hn
  exact bp Tryz.func164<|Kp 6 hw<|Kf 8<|bw<|cK [ak [iV 0,iV 0,iV 0],iV (-1),eO false]
theorem N3(p:PId)(u:TUnit)(hh:be p u=true)(hl:aB (Int.ofNat (aC p u).length) 2=true)(hn:nU u<=2^20):kP 164 [eU u,aK p] (.tuple [aK bT,iV (-1),.bool false]):=by
  have hw:=FM p u hh hn
  exact bp Tryz.func164<|Kp 6 hw<|Kl 2 14 (ln aY<|aC p u)<|Kt 0 hl<|Kf 3<|bw<|cK [ak [iV 0,iV 0,iV 0],iV (-1),eO false]
theorem QC(p:PId)(u:TUnit)(h:jj p u=false)(hn:nU u<=2^20):kP 164 [eU u,aK p] (.tuple [aK bT,iV (-1),.bool false]):=by
  grind[N4,N3,jj]
theorem QA(p:PId)(u:TUnit)(h:jj p u=true)(hn:nU u<=2^20):kP 164 [eU u,aK p] (.tuple [aK (r9 p u),iV (qr p u),.bool true]):=by
  have hl:aB (Int.ofNat (aC p u).length) 2=false:=by grind[jj]
  have hl2:2<=(aC p u).length:=by have:=aF hl;grind
  have hh:be p u=true:=by
    cases e:be p u with
    |true=>rfl
    |false=>grind[RL]
  have hw:=FM p u hh hn
  have hlen:=ma (p:=p) u
  have hm:JZ p u∈aT u:=LY u _ (dZ (by omega))
  have hkn:∀k,k∈(JZ p u).kids->nU k<=2^20:=fun k hk=>bO (dD (cn hm (MK hk))) hn
  have hkl:(JZ p u).kids.length<2^40:=by have:=bm (JZ p u);have:=dD hm;omega
  have hi:=abj (JZ p u).kids 233 p (be p) (fun k hk=>by
    grind[be,N5,N6]) hkl
  rw[Jl h,Jm h]
  generalize hG:JZ p u=y at *
  have hG2:gD (aC p u) ((aC p u).length -2)=y:=hG
  have rr0 b' (h:((au y).a)=b':=by(rw[hG2];rfl)):=h;have rr1 b' (h:((au y).i)=b':=by(rw[hG2];rfl)):=h;have rr2 b' (h:((au y).n)=b':=by(rw[hG2];rfl)):=h;exact bp Tryz.func164<|Kp 6 hw<|Kl 2 14 (ln aY<|aC p u)<|Kh 0 hl<|Kl 2 19 (ln aY<|aC p u)<|Kl 0 20 (Le.wn (x:=Int.ofNat (aC p u).length -(2:Int)) (n:=(aC p u).length -2) ei)<|Mx ((aR aY (oA:(aC p u).length -2<(aC p u).length)).trans<|congrArg some<|aO _)<|Mg 5<|M0 (.ren [2,3,0,1] [] [4,8,24,25])<|M1 (.frz 2 [4,8,24,25]) (cp rt rt ti)<|Mp (aL.onArgs (.cons (cY (by(rw[hG2];done):(y.kids.map aY)=(List.map aY (gD (aC p u) ((aC p u).length -2)).kids)))<|lc .nil) hi:kP 232 [aW (List.map aY (gD (aC p u) ((aC p u).length -2)).kids),bj (bx 233) [] [AV.pptr [ak [iV p.a,iV p.i,iV p.n]] 0 0]] _)<|Kf 6 (cL<|.cons (aP (.cons (li<|rr0 (gD (aC p u)<|(aC p u).length -2).act)<|.cons (li<|rr1 (gD (aC p u)<|(aC p u).length -2).item)<|.cons (li<|rr2 (gD (aC p u)<|(aC p u).length -2).n) .nil)<|by kernel_rfl)<|lc<|lc .nil:Le _ (cK [ak [iV (gD (aC p u) ((aC p u).length -2)).act,iV (gD (aC p u) ((aC p u).length -2)).item,iV (gD (aC p u) ((aC p u).length -2)).n],iV (dX (be p) y.kids 0),eO true]))
theorem QB(p:PId)(u:TUnit)(hn:nU u<=2^20):kP 164 [eU u,aK p] (.tuple [aK (r9 p u),iV (qr p u),.bool (jj p u)]):=by
  grind[jj,QA,Xu,QE,QC]
theorem aaB(p:PId)(u:TUnit)(h:be p u=false)(hn:nU u<=2^20):kP 221 [eU u,aK p] (.ls ((mn p u).map aK)):=by
  have hw:=LV p u h hn
  have e:mn p u=[]:=by unfold mn;rw[Ao h];rfl
  rw[e]
  let q:=[aZ 8 false 0 [ak (uLx u)],aZ 3 false 0 [ak [iV p.a,iV p.i,iV p.n]]];let q1:=[ab,ab,iV (IntKind.i64.wrap (0-2))];exact bp Tryz.func221<|Kp 5 hw<|Mg 4<|MO0 [5,6,7] (q1,q) True 0 ti fun _ _=>Kf 4 bD
theorem aaA(p:PId)(u:TUnit)(h:be p u=true)(hn:nU u<=2^20):kP 221 [eU u,aK p] (.ls ((mn p u).map aK)):=by
  have hw:=FM p u h hn
  have hlen:=ma (p:=p) u
  have hpos:0<(aC p u).length:=qU.2 (jr h)
  have hac:=DF p u
  have rr0 b' (h:((mn p u).map aK)=b':=by first|rfl|(rw[TU hx0 ‹_›];rfl)|(rw[Tq hx0.2.1 oA ‹_›])):=h;exact bp Tryz.func221<|Kp 5 hw<|Kl 0 6 (eP ((aC p u).map aY) false<|aX iZ<|aC p u)<|Kl 1 12 (ln aY<|aC p u)<|Kl 0 13 (Le.wr (x:=Int.ofNat (aC p u).length -2) ei)<|K1 0 (.frz 0 [5,6,7]) ti<|Tm Int Nat Nat (List PId) (Int.ofNat (aC p u).length -2) [5,6,7] (fun a=>([ab,aW<|(aC p u).map aY,iV a],[])) (fun a b c d=>([aI 0 b 0 c none,aW<|(aC p u).map aY,iV a],[aZ 3 true b<|d.map aK])) (fun a=>a=Int.ofNat (aC p u).length -(2:Int)) (fun a _ b c=>b=c.length/\c=oG p u (a+(1:Int)).toNat/\((-1):Int)<=a/\a+(2:Int)<=↑(aC p u).length/\c.length<=(aC p u).length) (fun a=>(a+1).toNat) (fun a _ _ _=>(a+1).toNat) (by rfl) (fun a hx0 _ b=>have hx0:=hx0;Kd 1 a 0 (fun _ _=>Kl 2 20 (Bs (x:=a) oA)<|Mx ((aR aY (gR:a.toNat<(aC p u).length)).trans<|congrArg some<|aO _)<|Kl 6 17 (Le.wr (x:=a-1) ei)<|Kf 0<|b (a-1) 0 1 [PId.mk (gD (aC p u) a.toNat).act (gD (aC p u) a.toNat).item (gD (aC p u) a.toNat).n] (by exact⟨rfl,PV hx0 (by omega),by omega,by grind,by grind⟩) oA) fun _ _=>Kf 1 (Le.lsn<|rr0 []:Le _ (ab))) fun a b c d hx0 _ e=>have hx0:=hx0;Kd 1 a 0 (fun _ _=>Kl 2 20 (Bs (x:=a) oA)<|Mx ((aR aY (oA:a.toNat<(aC p u).length)).trans<|congrArg some<|aO _)<|K1 2 .app (cp (aJ b) (sA:c=(d.map aK).length) (by(refine ar (m:=2^21) ?_ ?_ ?_<;>omega):small (c+1) 24=true))<|M1 (.obj 0<|aZ 3 true (b+1)<|(d++[PId.mk (gD (aC p u) a.toNat).act (gD (aC p u) a.toNat).item (gD (aC p u) a.toNat).n]).map aK) (congrArg (aZ 3 true<|b+1)<|dK (f:=aK) (l:=d) (ws:=[PId.mk (gD (aC p u) a.toNat).act (gD (aC p u) a.toNat).item (gD (aC p u) a.toNat).n]))<|Kl 2 17 (Le.wr (x:=a-1) ei)<|Kf 0<|e (a-1) (b+1) (c+1) (d++[PId.mk (gD (aC p u) a.toNat).act (gD (aC p u) a.toNat).item (gD (aC p u) a.toNat).n]) (by exact⟨by simp_all,ID hx0.2.1 hx0.2.2.2.1 (by omega),by omega,by omega,by(have z:=ID hx0.2.1 hx0.2.2.2.1 (by omega);grind)⟩) oA) fun _ _=>Mg 1<|M2 (.fsl 0 [] 4<|d.map aK) ti (cp (aJ b) (tA aK d c (oA:(d).length=c))<|aX Kg d)<|Ml 4 (eP (d.map aK) false<|aX Kg d)<|Mf<|cY<|rr0<|d.map aK
theorem IC(p:PId)(u:TUnit)(hn:nU u<=2^20):kP 221 [eU u,aK p] (.ls ((mn p u).map aK)):=by
  grind[aaA,aaB]
end Go.Proofs.YtadodlkibeofjaaGreatDoor
