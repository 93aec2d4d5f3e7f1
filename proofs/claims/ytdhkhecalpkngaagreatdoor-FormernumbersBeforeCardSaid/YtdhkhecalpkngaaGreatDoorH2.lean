/- Functions walked: what each of them answers, for If an address denotes exactly one unit on the book before an item reference, LastHolder returns that unit, and every unit that LastHolder returns is among the Holders: part 2. Conditions: those that each theorem names. -/
import Derived.Test.YtdhkhecalpkngaaGreatDoorH1
namespace Go.Proofs.YtdhkhecalpkngaaGreatDoor
open Go Go.Ev
noncomputable def qc(x:PWord):Bool:=aw (aB 100 (.ofNat x.text.length))
noncomputable def mO(ws:List PWord):Bool:=ws.all qc&&aw (aB 300 (.ofNat ws.length))
theorem GA(x:Int):kP 155 [iV x] (.bool false):=by
  have rr0 b' (h:(false)=b':=by simp[bg]):=h;exact wk Tryz.func155 (.go 4 .fin)<|ct<|rr0<|aw<|ae x x
theorem jF(x y:Int):kP 120 [iV x,iV y] (iV (gL x y)):=by
  have rr0 b' (h:(gL x y)=b':=by simp[gL, *]):=h;exact bo Tryz.func120<|Kp 1 (GA x)<|Kp 1 (GA y)<|Kb 7 (aB x y) (fun _=>Kf 0<|li<|rr0 (-1)) fun _=>Kb 2 (aB y x) (fun _=>Kf 0<|li<|rr0 1) fun _=>Kf 0<|li<|rr0 0
theorem FG(ws:List PWord)(hl:ws.length<2^60):kP 220 [.ls (ws.map aQ)] (.bool (mO ws)):=by
  have rr0 b' (h:(mO ws)=b':=by simp only[mO,qc,aS,aw,bS, *]):=h;exact bo Tryz.func220<|Mg 1<|tw aQ ws [0,3] (fun a _=>([aW<|ws.map aQ,nV a],[])) (fun a=>ws.all qc=a.all qc) (by rfl) (fun _ _ _ _ _ a _=>Kl 2 6 (ln aQ ws)<|Kh 0 a<|Kl 1 18 (ln aQ ws)<|Kf 1<|ct<|rr0<|aw<|aB 300<|Int.ofNat ws.length) fun a _ _ _ b c d _ e _ f _=>Kl 2 6 (ln aQ ws)<|Kt 0 e<|Kx 1 f<|Ka 3 100 (Int.ofNat<|List.length b.text) (fun _ _=>Ky 0<|rr0 false) fun _ _=>Kl 1 9 (dU a)<|Kf 0<|d<|by simp_all[qc]
mutual
noncomputable def kS:TUnit->Bool
  |⟨_,_,_,_,label,h,w,kids⟩=>aw (aB 30 (.ofNat label.length))&&mO h&&mO w&&yD kids
noncomputable def yD:List TUnit->Bool
  |[]=>true
  |u::r=>kS u&&yD r
end
theorem B6:∀(l:List TUnit),yD l=l.all kS
  |[]=>by rw[yD];rfl
  |u::r=>by rw[yD,B6 r];rfl
theorem B7(u:TUnit):kS u=(aw (aB 30 (.ofNat u.label.length))&&mO u.head&&mO u.words&&u.kids.all kS):=by
  obtain⟨a,b,c,d,e,f,g,h⟩:=u
  rw[kS,B6];rfl
theorem Om:∀(u:TUnit),tK u->kP 148 [eU u] (.bool (kS u)):=by
  refine TUnit.ind fun u ih hf=>?_
  obtain⟨f1,f2,f3,f4⟩:=qR.1 hf
  have rr0 b' (h:(kS u)=b':=by rw[B7];simp only[aS,aw,bS, *]):=h;exact bo Tryz.func148<|Ka 6 30 (Int.ofNat<|List.length u.label) (fun a _=>Mt a<|Mt a<|Mt a<|MV a<|Ky 3<|rr0 false) fun a _=>Kh 0 a<|Kh 0 a<|Mp (FG u.head f1)<|Mh a<|Kw 0 a<|Kn 0 (mO u.head) (fun a=>Mt (cS a)<|Mt (cS a)<|Mt (cS a)<|MV (cS a)<|Ky 1<|rr0 false) fun a=>Kh 0 (cF a)<|Kh 0 (cF a)<|Mp (FG u.words f2)<|Mh (cF a)<|Kw 0 (cF a)<|Mn (mO u.words) (fun _=>Ky 0<|rr0 false) fun _=>K1 0 (.frz 0 [1,3]) ti<|tw aq u.kids [1,3] (fun a _=>([AV.pptr [az [iV u.act,iV u.item,iV u.n,iV u.kind,aV u.label,aW<|u.head.map aQ,aW<|u.words.map aQ,aW<|u.kids.map aq]] 0 0,nV a],[])) (fun a=>u.kids.all kS=a.all kS) (by rfl) (fun _ _ _ _ _ a _=>Kl 3 23 (ln aq u.kids)<|Kh 0 a<|Ky 0<|rr0 true) fun a _ b _ c d e f g _ i _=>have i:=i.trans<|congrArg some<|aR c;Kl 3 23 (ln aq u.kids)<|Kt 0 g<|Kx 2 i<|Kp 0 (ih c (by exact aI b f)<|by exact f4 _ (aI b f))<|Kn 0 (kS c) (fun _=>Kf 0<|ct<|rr0 false) fun _=>Kl 1 26 (dU a)<|Kf 0<|e sA
mutual
noncomputable def mM:TUnit->Int->Int->Int
  |⟨_,_,_,_,_,_,_,kids⟩,deep,most=>match aB 20 deep with|true=>most+1|false=>mN kids deep most 1
noncomputable def mN:List TUnit->Int->Int->Int->Int
  |[],_,_,n=>n
  |k::r,deep,most,n=>match aB most n with|true=>n|false=>mN r deep most (n+mM k (deep+1) (most-n))
end
theorem PV(u:TUnit)(deep most:Int):mM u deep most=match aB 20 deep with|true=>most+1|false=>mN u.kids deep most 1:=by
  obtain⟨a,b,c,d,e,f,g,h⟩:=u;rw[mM];rfl
mutual
theorem FE:∀(u:TUnit)(deep most:Int),0<=most->1<=mM u deep most/\mM u deep most<=most+1
  | ⟨_,_,_,_,_,_,_,kids⟩,deep,most,h=>by
    rw[mM]
    split
    · omega
    · exact FF kids deep most 1 (by omega) (by omega)
theorem FF:∀(l:List TUnit)(deep most n:Int),1<=n->n<=most+1->1<=mN l deep most n/\mN l deep most n<=most+1
  |[],_,_,n,h1,h2=>by grind[mN]
  | k::r,deep,most,n,h1,h2=>by
    rw[mN]
    split
    · omega
    · rename_i h
      have:=aE h
      have:=FE k (deep+1) (most-n) (by omega)
      exact FF r deep most _ (by omega) (by omega)
end
theorem TK:∀(u:TUnit),tK u->∀(deep most:Int),0<=deep->deep<=21->0<=most->most<=2^20->kP 147 [eU u,iV deep,iV most] (iV (mM u deep most)):=by
  refine TUnit.ind fun u ih hf deep most d1 d2 m1 m2=>?_
  obtain⟨f1,f2,f3,f4⟩:=qR.1 hf
  have rr0 b' (h:(mM u deep most)=b':=by rw[PV];simp only[mN,aS,aw,bS, *]):=h;exact bo Tryz.func147<|Ka 3 20 deep (fun _ _=>Kl 1 12 (Le.wr (x:=most+1) ft)<|Kf 0<|li<|rr0<|most+1) fun _ _=>K1 1 (.frz 0 [1,2,3,7,8]) ti<|L5 aq u.kids (1:Int) [1,2,3,7,8] (fun a _ b=>([iV deep,iV most,AV.pptr [az [iV u.act,iV u.item,iV u.n,iV u.kind,aV u.label,aW<|u.head.map aQ,aW<|u.words.map aQ,aW<|u.kids.map aq]] 0 0,iV b,nV a],[])) (fun a b=>(1:Int)<=b/\b<=most+(1:Int)/\mN u.kids deep most (1:Int)=mN a deep most b) oA (fun _ _ a _ _ _ b _=>Kl 3 16 (ln aq u.kids)<|Kh 1 b<|Mh b<|Mh b<|My b<|Kf 2<|li<|rr0 a) fun a _ b c _ d e f g i _ j _=>have j:=j.trans<|congrArg some<|aR d;Kl 3 16 (ln aq u.kids)<|Kt 1 i<|Kt 0 i<|Kt 0 i<|Ku 0 i<|Mn (aB most b) (fun i=>have:=aE i;Kx 3 j<|Kl 2 32 (Le.wr (x:=deep+1) ft)<|Kl 2 35 (Le.wr (x:=most-b) ft)<|Mp (ih d (by exact aI c g) (by exact f4 _ (aI c g)) (deep+1) (most-b) oA oA oA oA)<|have:=FE d (deep+1) (most-b) oA;Kl 0 37 (Le.wr (x:=b+mM d (deep+1) (most-b)) ft)<|Kl 2 24 (dU a)<|Kf 0<|f (b+mM d (deep+1) (most-b))<|by(refine⟨by omega,by omega,?_⟩;first|rfl|grind[mN])) fun a=>have:=aA a;Kf 1<|li<|rr0 b
noncomputable def Hx(u:TUnit)(most:Int):Bool:=aw (aB most (mM u 0 most))&&kS u
theorem Uu(u:TUnit)(most:Int)(hf:tK u)(m1:0<=most)(m2:most<=2^20):kP 100 [eU u,iV most] (.bool (Hx u most)):=by
  have rr0 b' (h:(Hx u most)=b':=by simp only[Hx,aS,aw,bS, *]):=h;exact bo Tryz.func100<|Kp 3 (TK u hf 0 most oA oA m1 m2)<|Kn 2 (aB most<|mM u 0 most) (fun a=>Kt 0 (cS a)<|Mp (Om u hf)<|MV (cS a)<|Kf 0<|ct<|rr0<|kS u) fun a=>Mh (cF a)<|My (cF a)<|Ky 0<|rr0 false
noncomputable def xG(s:bZ):Bool:=aw (aB 100 (.ofNat s.length))
noncomputable def xF(s:PStep):Bool:=aw (aB 100 (.ofNat s.label.length))
noncomputable def yc(x:PItem):Bool:=
  aw (aB 12 (.ofNat x.at_.length))&&aw (aB 12 (.ofNat x.to.length))&&aw (aB 300 (.ofNat x.old.length))&&aw (aB 300 (.ofNat x.new.length))&&aw (aB 100 (.ofNat x.label.length))&&aw (aB 100 (.ofNat x.for_.length))
  &&aw (aB 100 (.ofNat x.start.event.length))&&aw (aB 100 (.ofNat x.event.length))&&aw (aB 2 (.ofNat x.by_.length))&&Hx x.unit 30
noncomputable def Hs(y:PItem):Bool:=aB 0 (.ofNat y.by_.length)&&aB 0 (.ofNat (gD y.by_ 0).by_.length)
mutual
noncomputable def nZ:PItem->Bool
  |⟨k,a,t,w,nn,u,o,n,lb,fo,st,ac,it,dy,ev,by_⟩=>yc ⟨k,a,t,w,nn,u,o,n,lb,fo,st,ac,it,dy,ev,by_⟩&&(o.all xG&&(n.all xG&&(a.all xF&&(t.all xF&&Hk by_))))
noncomputable def Hk:List PItem->Bool
  |[]=>true
  |u::r=>(aw (Hs u)&&nZ u)&&Hk r
end
noncomputable def HN(y:PItem):Bool:=aw (Hs y)&&nZ y
theorem Hj:∀(l:List PItem),Hk l=l.all HN
  |[]=>by rw[Hk];rfl
  |u::r=>by rw[Hk,Hj r];rfl
theorem Ed(x:PItem):nZ x=(yc x&&(x.old.all xG&&(x.new.all xG&&(x.at_.all xF&&(x.to.all xF&&x.by_.all HN))))):=by
  obtain⟨k,a,t,w,nn,u,o,n,lb,fo,st,ac,it,dy,ev,by_⟩:=x
  rw[nZ,Hj];rfl
theorem UA:∀(x:PItem),nc x->kP 61 [eI x] (.bool (nZ x)):=by
  refine PItem.ind fun x ih hf=>?_
  obtain⟨f1,f2,f3,f4,f5,f6,f7⟩:=qS.1 hf
  have hu:kP 100 [eU x.unit,iV 30] (.bool (Hx x.unit 30)):=Uu x.unit 30 f6 (by omega) (by omega)
  have rr0 b' (h:(nZ x)=b':=by rw[Ed,yc];simp only[HN,Hs,xG,xF,aS,aw,bS, *]):=h;exact bo Tryz.func61<|Kl 4 10 (ln aY x.at_)<|Ka 1 12 (Int.ofNat x.at_.length) (fun a _=>Mt a<|Mt a<|Mt a<|MV a<|Ky 17<|rr0 false) fun a _=>Kh 0 a<|Kh 0 a<|Kl 0 15 (ln aY x.to)<|Mh a<|Kw 0 a<|Ka 0 12 (Int.ofNat x.to.length) (fun a _=>Mt a<|Mt a<|Mt a<|MV a<|Ky 15<|rr0 false) fun a _=>Kh 0 a<|Kh 0 a<|Kl 0 21 (ln nK x.old)<|Mh a<|Kw 0 a<|Ka 0 300 (Int.ofNat x.old.length) (fun a _=>Mt a<|Mt a<|Mt a<|MV a<|Ky 13<|rr0 false) fun a _=>Kh 0 a<|Kh 0 a<|Kl 0 27 (ln nK x.new)<|Mh a<|Kw 0 a<|Ka 0 300 (Int.ofNat x.new.length) (fun a _=>Mt a<|Mt a<|Mt a<|MV a<|Ky 11<|rr0 false) fun a _=>Kh 0 a<|Kh 0 a<|Kh 0 a<|Kw 0 a<|Ka 0 100 (Int.ofNat<|List.length x.label) (fun a _=>Mt a<|Mt a<|Mt a<|MV a<|Ky 9<|rr0 false) fun a _=>Kh 0 a<|Kh 0 a<|Kh 0 a<|Kw 0 a<|Ka 0 100 (Int.ofNat<|List.length x.for_) (fun a _=>Mt a<|Mt a<|Mt a<|Mt a<|MV a<|Ky 7<|rr0 false) fun a _=>Kh 0 a<|Kh 0 a<|Kh 0 a<|Kh 0 a<|Kw 0 a<|Ka 0 100 (Int.ofNat<|List.length x.start.event) (fun a _=>Mt a<|Mt a<|Mt a<|MV a<|Ky 5<|rr0 false) fun a _=>Kh 0 a<|Kh 0 a<|Kh 0 a<|Kw 0 a<|Ka 0 100 (Int.ofNat<|List.length x.event) (fun a _=>Mt a<|Mt a<|Mt a<|MV a<|Ky 3<|rr0 false) fun a _=>Kh 0 a<|Kh 0 a<|Kl 0 58 (ln NO x.by_)<|Mh a<|Kw 0 a<|Ka 0 2 (Int.ofNat x.by_.length) (fun a _=>Mt a<|Mt a<|Mt a<|MV a<|Ky 1<|rr0 false) fun a _=>Kh 0 a<|Kh 0 a<|Mp hu<|Mh a<|Kw 0 a<|Mn (Hx x.unit 30) (fun _=>Ky 0<|rr0 false) fun _=>K1 0 (.frz 0 [1,3]) ti<|tw nK x.old [1,3] (fun a _=>([AV.pptr [az [iV x.kind,aW<|x.at_.map aY,aW<|x.to.map aY,iV x.where_,iV x.nth_,iV x.unit.act,iV x.unit.item,iV x.unit.n,iV x.unit.kind,aV x.unit.label,aW<|x.unit.head.map aQ,aW<|x.unit.words.map aQ,aW<|x.unit.kids.map aq,aW<|x.old.map nK,aW<|x.new.map nK,aV x.label,aV x.for_,iV x.start.kind,iV x.start.day,aV x.start.event,iV x.act,iV x.item,iV x.day,aV x.event,aW<|x.by_.map NO]] 0 0,nV a],[])) (fun a=>x.old.all xG=a.all xG) (by rfl) (fun _ _ _ _ _ a _=>Kl 3 70 (ln nK x.old)<|Kh 0 a<|Mg 0<|tw nK x.new [1,4] (fun a _=>([AV.pptr [az [iV x.kind,aW<|x.at_.map aY,aW<|x.to.map aY,iV x.where_,iV x.nth_,iV x.unit.act,iV x.unit.item,iV x.unit.n,iV x.unit.kind,aV x.unit.label,aW<|x.unit.head.map aQ,aW<|x.unit.words.map aQ,aW<|x.unit.kids.map aq,aW<|x.old.map nK,aW<|x.new.map nK,aV x.label,aV x.for_,iV x.start.kind,iV x.start.day,aV x.start.event,iV x.act,iV x.item,iV x.day,aV x.event,aW<|x.by_.map NO]] 0 0,nV a],[])) (fun a=>x.new.all xG=a.all xG) (by rfl) (fun _ _ _ _ _ a _=>Kl 3 84 (ln nK x.new)<|Kh 0 a<|Mg 0<|tw aY x.at_ [1,5] (fun a _=>([AV.pptr [az [iV x.kind,aW<|x.at_.map aY,aW<|x.to.map aY,iV x.where_,iV x.nth_,iV x.unit.act,iV x.unit.item,iV x.unit.n,iV x.unit.kind,aV x.unit.label,aW<|x.unit.head.map aQ,aW<|x.unit.words.map aQ,aW<|x.unit.kids.map aq,aW<|x.old.map nK,aW<|x.new.map nK,aV x.label,aV x.for_,iV x.start.kind,iV x.start.day,aV x.start.event,iV x.act,iV x.item,iV x.day,aV x.event,aW<|x.by_.map NO]] 0 0,nV a],[])) (fun a=>x.at_.all xF=a.all xF) (by rfl) (fun _ _ _ _ _ a _=>Kl 3 98 (ln aY x.at_)<|Kh 0 a<|Mg 0<|tw aY x.to [1,6] (fun a _=>([AV.pptr [az [iV x.kind,aW<|x.at_.map aY,aW<|x.to.map aY,iV x.where_,iV x.nth_,iV x.unit.act,iV x.unit.item,iV x.unit.n,iV x.unit.kind,aV x.unit.label,aW<|x.unit.head.map aQ,aW<|x.unit.words.map aQ,aW<|x.unit.kids.map aq,aW<|x.old.map nK,aW<|x.new.map nK,aV x.label,aV x.for_,iV x.start.kind,iV x.start.day,aV x.start.event,iV x.act,iV x.item,iV x.day,aV x.event,aW<|x.by_.map NO]] 0 0,nV a],[])) (fun a=>x.to.all xF=a.all xF) (by rfl) (fun _ _ _ _ _ a _=>Kl 3 113 (ln aY x.to)<|Kh 0 a<|Mg 0<|tw NO x.by_ [1,7] (fun a _=>([AV.pptr [az [iV x.kind,aW<|x.at_.map aY,aW<|x.to.map aY,iV x.where_,iV x.nth_,iV x.unit.act,iV x.unit.item,iV x.unit.n,iV x.unit.kind,aV x.unit.label,aW<|x.unit.head.map aQ,aW<|x.unit.words.map aQ,aW<|x.unit.kids.map aq,aW<|x.old.map nK,aW<|x.new.map nK,aV x.label,aV x.for_,iV x.start.kind,iV x.start.day,aV x.start.event,iV x.act,iV x.item,iV x.day,aV x.event,aW<|x.by_.map NO]] 0 0,nV a],[])) (fun a=>x.by_.all HN=a.all HN) (by rfl) (fun _ _ _ _ _ a _=>Kl 3 128 (ln NO x.by_)<|Kh 0 a<|Ky 0<|rr0 true) fun a _ b _ c d e f g _ i _=>have i:=i.trans<|congrArg some<|eb c;Kl 3 128 (ln NO x.by_)<|Kt 0 g<|Kx 2 i<|Kl 2 138 (ln NO c.by_)<|Ka 1 0 (Int.ofNat c.by_.length) (fun g _=>Kt 0 g<|Kt 0 g<|Kt 0 g<|Mx i<|Mt g<|Kt 0 g<|Kt 0 g<|Mx ((bJ NO (sA:0<(c.by_).length)).trans<|congrArg some<|eb _)<|Mt g<|Kt 0 g<|Kt 0 g<|Kl 0 150 (ln NO (gD c.by_ 0).by_)<|Mt g<|Ku 0 g<|Ka 0 0 (Int.ofNat (gD c.by_ 0).by_.length) (fun a _=>Mt a<|Mt a<|Mt a<|Mt a<|Mt a<|Mt a<|MV a<|Ky 1<|rr0 false) fun g _=>Kh 0 g<|Kh 0 g<|Kh 0 g<|Mx i<|Mh g<|Kh 0 g<|Mp (ih c (by exact aI b f)<|by exact f7 _ (aI b f))<|Mh g<|Kw 0 g<|Mn (nZ c) (fun _=>Kf 0<|ct<|rr0 false) fun _=>Kl 1 131 (dU a)<|Kf 0<|e<|by simp_all[HN,Hs]) fun g _=>Mh g<|Mh g<|Mh g<|Mh g<|Mh g<|Mh g<|Mh g<|Mh g<|Mh g<|Mh g<|My g<|Kx 3 i<|Kp 0 (ih c (by exact aI b f)<|by exact f7 _ (aI b f))<|Kn 1 (nZ c) (fun _=>Kf 0<|ct<|rr0 false) fun _=>Kl 1 131 (dU a)<|Kf 0<|e<|by simp_all[HN,Hs]) fun a _ _ _ b c d _ e _ f _=>Kl 3 113 (ln aY x.to)<|Kt 0 e<|Kx 2 f<|Ka 3 100 (Int.ofNat<|List.length b.label) (fun _ _=>Ky 0<|rr0 false) fun _ _=>Kl 1 116 (dU a)<|Kf 0<|d<|by simp_all[xF]) fun a _ _ _ b c d _ e _ f _=>Kl 3 98 (ln aY x.at_)<|Kt 0 e<|Kx 2 f<|Ka 3 100 (Int.ofNat<|List.length b.label) (fun _ _=>Ky 0<|rr0 false) fun _ _=>Kl 1 101 (dU a)<|Kf 0<|d<|by simp_all[xF]) fun a _ _ _ b c d _ e _ f _=>Kl 3 84 (ln nK x.new)<|Kt 0 e<|Kx 2 f<|Ka 2 100 (Int.ofNat<|List.length b) (fun _ _=>Ky 0<|rr0 false) fun _ _=>Kl 1 87 (dU a)<|Kf 0<|d<|by simp_all[xG]) fun a _ _ _ b c d _ e _ f _=>Kl 3 70 (ln nK x.old)<|Kt 0 e<|Kx 2 f<|Ka 2 100 (Int.ofNat<|List.length b) (fun _ _=>Ky 0<|rr0 false) fun _ _=>Kl 1 73 (dU a)<|Kf 0<|d<|by simp_all[xG]
noncomputable def BJ(most n:Int)(a:PAct):Bool:=aB most (n+Int.ofNat a.items.length)||(aB 100 (Int.ofNat a.title.length)||(aB 60 (Int.ofNat a.start.event.length)||aw (a.items.all nZ)))
noncomputable def mc(most:Int):List PAct->Int->Option Int
  |[],n=>some n
  |a::r,n=>match BJ most n a with|true=>none|false=>mc most r (n+Int.ofNat a.items.length)
noncomputable def wX(g:PGaz):Bool:=aB 8 (Int.ofNat g.acts.length)||aB 60 (Int.ofNat g.prior.length)
noncomputable def uD(most:Int):List PGaz->Int->Bool
  |[],_=>true
  |g::r,n=>match wX g with|true=>false|false=>match mc most g.acts n with|none=>false|some m=>uD most r m
noncomputable def Hw(gs:List PGaz)(most:Int):Bool:=match aB 8 (Int.ofNat gs.length)with|true=>false|false=>uD most gs 0
theorem UB(gs:List PGaz)(most:Int)(hf:pF gs)(m1:0<=most)(m2:most<=2^20):kP 24 [.ls (gs.map am),iV most] (.bool (Hw gs most)):=by
  obtain⟨f0,f1⟩:=hf
  have fa:∀g,g∈gs->∀a,a∈g.acts->a.items.length<2^60:=fun g hg a ha=>((f1 g hg).2 a ha).1
  have fb:∀g,g∈gs->g.acts.length<2^60:=fun g hg=>(f1 g hg).1
  have rr0 b' (h:(Hw gs most)=b':=by simp only[Hw,uD,wX,mc,BJ,aS,aw,bS, *]):=h;exact bo Tryz.func24<|Kl 2 11 (ln am gs)<|Ka 0 8 (Int.ofNat gs.length) (fun _ _=>Ky 0<|rr0 false) fun _ _=>Mg 1<|L5 am gs (0:Int) [0,1,5,6] (fun b _ c=>([aW<|gs.map am,iV most,iV c,nV b],[])) (fun b c=>(0:Int)<=c/\c<=most/\uD most gs (0:Int)=uD most b c) (by(refine⟨by omega,by omega,?_⟩;first|rfl|(simp only[uD,wX,mc,aS,aw,bS, *]))) (fun _ _ _ _ _ _ b _=>Kl 2 15 (ln am gs)<|Kh 0 b<|Ky 0<|rr0 true) fun b _ c d _ e f i j k _ l m=>Kl 2 15 (ln am gs)<|Kt 0 k<|Kx 1 l<|Kl 2 24 (ln ay e.acts)<|Ka 1 8 (Int.ofNat e.acts.length) (fun b _=>Mt b<|Mt b<|Mt b<|Mt b<|Mt b<|Mt b<|MV b<|Ky 1<|rr0 false) fun k _=>Kh 0 k<|Kh 0 k<|Mx l<|Mh k<|Kh 0 k<|Kh 0 k<|Kh 0 k<|Kw 0 k<|Mb (aB 60<|Int.ofNat<|List.length e.prior) (fun b=>have:=aA b;Ky 0<|rr0 false) fun k=>have:=aE k;Mg 0<|L5 ay e.acts c [0,1,5,6,7] (fun c _ d=>([aW<|gs.map am,iV most,iV d,nV b,nV c],[])) (fun b d=>(0:Int)<=d/\d<=most/\mc most e.acts c=mc most b d) (by(exact⟨m.1,m.2.1,rfl⟩)) (fun _ _ c _ _ _ d _=>Kx 2 l<|Kl 2 41 (ln ay e.acts)<|Kh 0 d<|Kl 1 18 (dU b)<|Kf 0<|i c<|by(refine⟨by omega,by omega,?_⟩;first|rfl|(simp only[uD,wX,mc,aS,aw,bS, *]))) fun f _ i k _ m n o p q _ r _=>have:=fa e (aI d j) m<|aI k p;have:=fb e<|aI d j;Kx 2 l<|Kl 2 41 (ln ay e.acts)<|Kt 0 q<|Kx 1 l<|Kx 2 r<|Kl 6 56 (ln NO m.items)<|Kl 0 57 (Le.wr (x:=i+Int.ofNat m.items.length) ft)<|Ka 4 most (i+Int.ofNat m.items.length) (fun b _=>Mt b<|Mt b<|Mt b<|MV b<|Ky 3<|rr0 false) fun l _=>Kh 0 l<|Kh 0 l<|Kh 0 l<|Kw 0 l<|Ka 0 100 (Int.ofNat<|List.length m.title) (fun b _=>Mt b<|Mt b<|Mt b<|Mt b<|MV b<|Ky 1<|rr0 false) fun l _=>Kh 0 l<|Kh 0 l<|Kh 0 l<|Kh 0 l<|Kw 0 l<|Mb (aB 60<|Int.ofNat<|List.length m.start.event) (fun b=>have:=aA b;Ky 0<|rr0 false) fun l=>have:=aE l;K1 0 (.frz 0 [0,1,5,6,7,8,9]) ti<|tw NO m.items [0,1,5,6,7,8,9] (fun c _=>([aW<|gs.map am,iV most,iV<|i+Int.ofNat m.items.length,nV b,nV f,AV.pptr [az [iV m.number,aV m.title,iV m.day,iV m.start.kind,iV m.start.day,aV m.start.event,aW<|m.items.map NO]] 0 0,nV c],[])) (fun b=>m.items.all nZ=b.all nZ) (by rfl) (fun _ _ _ _ _ b _=>Kl 3 77 (ln NO m.items)<|Kh 0 b<|Kl 1 44 (dU f)<|Kf 0<|o (i+Int.ofNat m.items.length)<|by(refine⟨by(simp only[oN]at *;omega),by assumption,?_⟩;simp only[mc,BJ,aS,aw,bS, *])) fun b _ c _ e f i l n _ o _=>have o:=o.trans<|congrArg some<|eb e;Kl 3 77 (ln NO m.items)<|Kt 0 n<|Kx 2 o<|Kp 0 (UA e<|by first|exact((f1 _ (aI d j)).2 _ (aI k p)).2 _ (aI c l))<|Kn 0 (nZ e) (fun _=>Kf 0<|ct<|rr0 false) fun _=>Kl 1 80 (dU b)<|Kf 0<|i<|by simp only[aS,aw,bS, *]at *
noncomputable def Xy(gs:List PGaz)(p:bZ):Bool:=Hw gs 24&&aw (aB 60 (Int.ofNat p.length))
theorem ifW(l:List PWord)(g:Nat)(q:PWord->Bool)(hp:∀k,k∈l->kP g [aQ k] (.bool (q k)))(hl:l.length<2^40):kP 323 [.ls (l.map aQ),.func (.func g) [] []] (iV (cM q l 0)):=by
  have rr0 b' (h:(cM q l 0)=b':=by first|exact lh zd0 hr0 hj0 ‹_› |exact hj0):=h;exact bo Tryz.func323<|Kl 2 7 (ln aQ l)<|Mg 0<|tw aQ l [0,1,7,8] (fun a _=>([aW<|l.map aQ,bQ (aT g) [] [],nV l.length,nV a],[])) (fun a=>cM q l (0:Nat)=cM q a (l.length-a.length)) sA (fun _ _ zd0 _ hr0 a hj0=>Kh 0 a<|Kf 0<|li<|rr0 (-1)) fun a _ zd0 _ b c d hr0 e _ f hj0=>Kt 0 e<|Kx 4 f<|Kp 0 (hp b<|by exact aI zd0 hr0)<|Mb (q b) (fun _=>Kf 1<|li<|rr0<|Int.ofNat a) fun _=>Kl 0 18 (dU a)<|Kf 0<|d<|by exact jp zd0 hr0 hj0 (by omega)
theorem cfW(l:List PWord)(g:Nat)(q:PWord->Bool)(hp:∀k,k∈l->kP g [aQ k] (.bool (q k)))(hl:l.length<2^40):kP 291 [.ls (l.map aQ),.func (.func g) [] []] (.bool (l.any q)):=by
  have h:=ifW l g q hp hl
  have rr0 b' (h:(l.any q)=b':=by(rw[kc];simp only[aS,aw,bS,sQ])):=h;exact bo Tryz.func291<|Kp 2 h<|Kf 1<|ct<|rr0<|aw<|aB (cM q l 0) 0
theorem CB(w:PWord):kP 290 [aQ w] (.bool (pq w)):=by
  exact bo Tryz.func290<|Kv 4 (Gk ((Tryz.prog).underlying 123) w.act w.item w.at_ 0 0 0<|av [aZ 4 false 0 [az [aV w.text,iV w.act,iV w.item,iV w.at_]]])<|Kf 0<|bY<|dQ<|aw<|ae w.act 0&&(ae w.item 0&&ae w.at_ 0)
theorem Sq(u:TUnit)(h1:u.head.length<2^40)(h2:u.words.length<2^40):kP 289 [eU u] (.bool (Dc u)):=by
  have c1:=cfW u.head 290 pq (fun k _=>CB k) h1
  have c2:=cfW u.words 290 pq (fun k _=>CB k) h2
  have rr0 b' (h:(Dc u)=b':=by(simp only[Dc,f9,bK,bw,bN,aS,aw,bS, *];first|done|rfl)):=h;exact bo Tryz.func289<|Kv 5 (kH ((Tryz.prog).underlying 26) u.act u.item u.n 0 0 0<|av [aZ 8 false 0 [az [iV u.act,iV u.item,iV u.n,iV u.kind,aV u.label,aW<|u.head.map aQ,aW<|u.words.map aQ,aW<|u.kids.map aq]]])<|Kb 0 (ae u.act 0&&(ae u.item 0&&ae u.n 0)) (fun a=>Kt 0 a<|Kt 0 a<|Kt 0 a<|Mp c1<|Mt a<|Ku 0 a<|Kn 0 (u.head.any pq) (fun a=>Kt 0 (cS a)<|Kt 0 (cS a)<|Kt 0 (cS a)<|Mp c2<|Mt (cS a)<|Ku 0 (cS a)<|Kf 0<|ct<|rr0<|aw<|u.words.any pq) fun a=>Mh (cF a)<|Mh (cF a)<|Mh (cF a)<|Mh (cF a)<|My (cF a)<|Ky 0<|rr0 false) fun a=>Mh a<|Mh a<|Mh a<|Mh a<|My a<|Ky 2<|rr0 false
theorem XL(u:TUnit)(h:mI u):kP 255 [eU u] (.bool (HS u)):=by
  have e1:=xT u h
  have e2:=Lo 289 Dc u (fun x hx=>by
      obtain⟨a,b,_⟩:=h.2 x hx
      grind[Sq]) (by have h1:=bf u;have h3:=h.1;omega) (fun x hx=>by
      have h1:=bf x
      have h2:=dT hx
      have h3:=h.1
      omega)
  have rr0 b' (h:(HS u)=b':=by(simp only[HS,aS,aw,bS, *];first|done|rfl)):=h;exact bo Tryz.func255<|Kp 2 e1<|Kb 0 (lZ u) (fun c=>Kt 0 c<|Mp e2<|MV c<|Kf 0<|ct<|rr0<|wy Dc u) fun c=>Mh c<|My c<|Ky 0<|rr0 false
theorem NZ(p:PId)(u:TUnit)(hh:cK p u=false)(hn:nU u<=2^20):kP 184 [eU u,aJ p] (.tuple [aJ bN,iV (-1),.bool false]):=by
  have hw:=J3 p u hh hn
  exact bo Tryz.func184<|Kp 6 hw<|Kf 8<|bY<|dg [az [iV 0,iV 0,iV 0],iV (-1),dQ false]
theorem NQ(p:PId)(u:TUnit)(hh:cK p u=true)(hl:aB (Int.ofNat (aF p u).length) 2=true)(hn:nU u<=2^20):kP 184 [eU u,aJ p] (.tuple [aJ bN,iV (-1),.bool false]):=by
  have hw:=Fk p u hh hn
  exact bo Tryz.func184<|Kp 6 hw<|Kl 2 14 (ln aq<|aF p u)<|Kt 0 hl<|Kf 3<|bY<|dg [az [iV 0,iV 0,iV 0],iV (-1),dQ false]
theorem Ps(p:PId)(u:TUnit)(h:iY p u=false)(hn:nU u<=2^20):kP 184 [eU u,aJ p] (.tuple [aJ bN,iV (-1),.bool false]):=by
  grind[NZ,NQ,iY]
theorem Pp(p:PId)(u:TUnit)(h:iY p u=true)(hn:nU u<=2^20):kP 184 [eU u,aJ p] (.tuple [aJ (sM p u),iV (qp p u),.bool true]):=by
  have hl:aB (Int.ofNat (aF p u).length) 2=false:=by grind[iY]
  have hl2:2<=(aF p u).length:=by have:=aE hl;grind
  have hh:cK p u=true:=by
    cases e:cK p u with
    |true=>rfl
    |false=>grind[QG]
  have hw:=Fk p u hh hn
  have hlen:=me (p:=p) u
  have hm:Ia p u∈bB u:=J4 u _ (ig (by omega))
  have hkn:∀k,k∈(Ia p u).kids->nU k<=2^20:=fun k hk=>bO (dT (jV hm (Lz hk))) hn
  have hkl:(Ia p u).kids.length<2^40:=by have:=bf (Ia p u);have:=dT hm;omega
  have hi:=aan (Ia p u).kids 253 p (cK p) (fun k hk=>by
    grind[cK,NX,NW]) hkl
  rw[IL h,IM h]
  generalize hG:Ia p u=y at *
  have hG2:gD (aF p u) ((aF p u).length -2)=y:=hG
  have rr0 b' (h:((bw y).a)=b':=by(rw[hG2];rfl)):=h;have rr1 b' (h:((bw y).i)=b':=by(rw[hG2];rfl)):=h;have rr2 b' (h:((bw y).n)=b':=by(rw[hG2];rfl)):=h;exact bo Tryz.func184<|Kp 6 hw<|Kl 2 14 (ln aq<|aF p u)<|Kh 0 hl<|Kl 2 19 (ln aq<|aF p u)<|Kl 0 20 (cZ (x:=Int.ofNat (aF p u).length -(2:Int)) (n:=(aF p u).length -2) ft)<|Mx ((bJ aq (oA:(aF p u).length -2<(aF p u).length)).trans<|congrArg some<|aR _)<|Mg 5<|M0 (.ren [2,3,0,1] [] [4,8,24,25])<|M1 (.frz 2 [4,8,24,25]) (ch rt rt ti)<|Mp (bX.onArgs (.cons (cn (by(rw[hG2];done):(y.kids.map aq)=(List.map aq (gD (aF p u) ((aF p u).length -2)).kids)))<|lc .nil) hi:kP 252 [aW (List.map aq (gD (aF p u) ((aF p u).length -2)).kids),bQ (aT 253) [] [AV.pptr [az [iV p.a,iV p.i,iV p.n]] 0 0]] _)<|Kf 6 (eF<|.cons (aO (.cons (li<|rr0 (gD (aF p u)<|(aF p u).length -2).act)<|.cons (li<|rr1 (gD (aF p u)<|(aF p u).length -2).item)<|.cons (li<|rr2 (gD (aF p u)<|(aF p u).length -2).n) .nil)<|by kernel_rfl)<|lc<|lc .nil:Le _ (dg [az [iV (gD (aF p u) ((aF p u).length -2)).act,iV (gD (aF p u) ((aF p u).length -2)).item,iV (gD (aF p u) ((aF p u).length -2)).n],iV (cM (cK p) y.kids 0),dQ true]))
theorem Pr(p:PId)(u:TUnit)(hn:nU u<=2^20):kP 184 [eU u,aJ p] (.tuple [aJ (sM p u),iV (qp p u),.bool (iY p u)]):=by
  grind[iY,Pp,Wa,Pu,Ps]
theorem Zh(p:PId)(u:TUnit)(h:cK p u=false)(hn:nU u<=2^20):kP 240 [eU u,aJ p] (.ls ((pP p u).map aJ)):=by
  have hw:=J3 p u h hn
  have e:pP p u=[]:=by unfold pP;rw[Aj h];rfl
  rw[e]
  let q:=[aZ 8 false 0 [az [iV u.act,iV u.item,iV u.n,iV u.kind,aV u.label,aW (u.head.map aQ),aW (u.words.map aQ),aW (u.kids.map aq)]],aZ 3 false 0 [az [iV p.a,iV p.i,iV p.n]]];let q1:=[ak,ak,iV (IntKind.i64.wrap (0-2))];exact bo Tryz.func240<|Kp 5 hw<|Mg 4<|Vh [5,6,7] (q1,q) True 0 ti fun _ _=>Kf 4 bA
theorem Zg(p:PId)(u:TUnit)(h:cK p u=true)(hn:nU u<=2^20):kP 240 [eU u,aJ p] (.ls ((pP p u).map aJ)):=by
  have hw:=Fk p u h hn
  have hlen:=me (p:=p) u
  have hpos:0<(aF p u).length:=qJ.2 (ll h)
  have hac:=De p u
  have rr0 b' (h:((pP p u).map aJ)=b':=by first|rfl|(rw[Sd hx0 ‹_›];rfl)|(rw[Se hx0.2.1 oA ‹_›])):=h;exact bo Tryz.func240<|Kp 5 hw<|Kl 0 6 (fY ((aF p u).map aq) false<|aX iU<|aF p u)<|Kl 1 12 (ln aq<|aF p u)<|Kl 0 13 (Le.wr (x:=Int.ofNat (aF p u).length -2) ft)<|K1 0 (.frz 0 [5,6,7]) ti<|SA Int Nat Nat (List PId) (Int.ofNat (aF p u).length -2) [5,6,7] (fun a=>([ak,aW<|(aF p u).map aq,iV a],[])) (fun a b c d=>([aD 0 b 0 c none,aW<|(aF p u).map aq,iV a],[aZ 3 true b<|d.map aJ])) (fun a=>a=Int.ofNat (aF p u).length -(2:Int)) (fun a _ b c=>b=c.length/\c=oG p u (a+(1:Int)).toNat/\((-1):Int)<=a/\a+(2:Int)<=↑(aF p u).length/\c.length<=(aF p u).length) (fun a=>(a+1).toNat) (fun a _ _ _=>(a+1).toNat) (by rfl) (fun a hx0 _ b=>have hx0:=hx0;Kd 1 a 0 (fun _ _=>Kl 2 20 (BU (x:=a) oA)<|Mx ((bJ aq (gR:a.toNat<(aF p u).length)).trans<|congrArg some<|aR _)<|Kl 6 17 (Le.wr (x:=a-1) ft)<|Kf 0<|b (a-1) 0 1 [PId.mk (gD (aF p u) a.toNat).act (gD (aF p u) a.toNat).item (gD (aF p u) a.toNat).n] (by exact⟨rfl,OZ hx0 (by omega),by omega,by grind,by grind⟩) oA) fun _ _=>Kf 1 (Le.lsn<|rr0 []:Le _ (ak))) fun a b c d hx0 _ e=>have hx0:=hx0;Kd 1 a 0 (fun _ _=>Kl 2 20 (BU (x:=a) oA)<|Mx ((bJ aq (oA:a.toNat<(aF p u).length)).trans<|congrArg some<|aR _)<|K1 2 .app (ch (ax b) (sA:c=(d.map aJ).length) (by(refine aM (m:=2^21) ?_ ?_ ?_<;>omega):small (c+1) 24=true))<|M1 (.obj 0<|aZ 3 true (b+1)<|(d++[PId.mk (gD (aF p u) a.toNat).act (gD (aF p u) a.toNat).item (gD (aF p u) a.toNat).n]).map aJ) (congrArg (aZ 3 true<|b+1)<|dJ (f:=aJ) (l:=d) (ws:=[PId.mk (gD (aF p u) a.toNat).act (gD (aF p u) a.toNat).item (gD (aF p u) a.toNat).n]))<|Kl 2 17 (Le.wr (x:=a-1) ft)<|Kf 0<|e (a-1) (b+1) (c+1) (d++[PId.mk (gD (aF p u) a.toNat).act (gD (aF p u) a.toNat).item (gD (aF p u) a.toNat).n]) (by exact⟨by simp_all,H6 hx0.2.1 hx0.2.2.2.1 (by omega),by omega,by omega,by(have z:=H6 hx0.2.1 hx0.2.2.2.1 (by omega);grind)⟩) oA) fun _ _=>Mg 1<|M2 (.fsl 0 [] 4<|d.map aJ) ti (ch (ax b) (tA aJ d c (oA:(d).length=c))<|aX Jl d)<|Ml 4 (fY (d.map aJ) false<|aX Jl d)<|Mf<|cn<|rr0<|d.map aJ
theorem H5(p:PId)(u:TUnit)(hn:nU u<=2^20):kP 240 [eU u,aJ p] (.ls ((pP p u).map aJ)):=by
  grind[Zg,Zh]
theorem lk(u:TUnit)(s:PStep):kP 111 [eU u,aY s] (.bool (bC s u)):=by
  have rr0 b' (h:(bC s u)=b':=by(simp only[bC,bg,aS,aw,bS, *];first|done|rfl)):=h;exact bo Tryz.func111<|Kb 8 (ae u.kind s.kind) (fun a=>Kt 0 a<|Kt 0 a<|Kt 0 a<|Kt 0 a<|Ku 0 a<|Kf 0<|ct<|rr0<|eV u.label s.label) fun a=>Mh a<|Mh a<|Mh a<|Mh a<|My a<|Ky 0<|rr0 false
noncomputable abbrev jt(p:List PStep):AObj:=.row 1 false 0 [.ls (p.map aY)]
noncomputable abbrev EC(ep n:Nat):AObj:=.row 1 false 0 [.slice 2 ep 0 n none]
noncomputable abbrev Bl(ep:Nat)(l:List TUnit):AObj:=.row 8 true ep (l.map aq)
noncomputable abbrev Nj:AObj:=.row 1 false 0 [.nils]
theorem CP(s:PStep)(rs:List PStep)(u:TUnit)(h:By (bC s u) false):kD 110 [eU u,.ptr 0 0 0 0,.ptr 1 0 0 0] (av [jt (s::rs),Nj]) (.tuple []) (av [jt (s::rs),Nj]):=by
  have h':bC s u=false:=h
  exact dE Tryz.func110 fun a=>Kp 4 (lk u s)<|Mh h'<|M1 (.frz 2 []) (ch rt rt ti)<|Mf a
theorem Jk(s:PStep)(rs:List PStep)(u:TUnit)(h:By (bC s u) true):kD 110 [eU u,.ptr 0 0 0 0,.ptr 1 0 0 0] (av [jt (s::rs),Nj]) (.tuple []) (av [jt (s::rs),EC 0 1,Bl 0 [u]]):=by
  have h':bC s u=true:=h
  exact CQ Tryz.func110<|Kp 4 (lk u s)<|Mt h'<|Mg 7<|M0 (.ren [0,1,3,2] [] [])<|M1 (.frz 3 []) (kF rt rt rt ti)<|Mf<|et (ax<|dg []) (by(simp only[Bl,eu,wc,aR];rfl):(av [AObj.row 1 false 0 [AV.ls ((s::rs).map aY)],AObj.row 1 false 0 [AV.slice 2 0 0 1 none],AObj.row 8 true 0 [AV.agg [iV u.act,iV u.item,iV u.n,iV u.kind,AV.str u.label,AV.ls (u.head.map aQ),AV.ls (u.words.map aQ),AV.ls (u.kids.map aq)]]])=(av [jt (s::rs),EC 0 1,Bl 0 [u]]))
theorem Nu(s:PStep)(rs:List PStep)(u:TUnit)(ep n:Nat)(l:List TUnit)(h:By (bC s u) false):kD 110 [eU u,.ptr 0 0 0 0,.ptr 1 0 0 0] (av [jt (s::rs),EC ep n,Bl ep l]) (.tuple []) (av [jt (s::rs),EC ep n,Bl ep l]):=by
  have h':bC s u=false:=h
  exact dE Tryz.func110 fun a=>Kp 4 (lk u s)<|Mh h'<|M1 (.frz 3 []) (kF (tR 8 true ep 3<|aX iU l) rt rt ti)<|Mf a
theorem NA(s:PStep)(rs:List PStep)(u:TUnit)(ep n:Nat)(l:List TUnit)(h:By (bC s u) true)(hn:n=l.length)(hl:l.length<2^30):kD 110 [eU u,.ptr 0 0 0 0,.ptr 1 0 0 0] (av [jt (s::rs),EC ep n,Bl ep l]) (.tuple []) (av [jt (s::rs),EC (ep+1) (n+1),Bl (ep+1) (l++[u])]):=by
  have h':bC s u=true:=h
  let q:=[iV 0,iV 0,iV 0,iV 0,aV [],ak,ak,ak];let q1:=List.map aq l++[az q];exact dE Tryz.func110 fun a=>Kp 4 (lk u s)<|Mt h'<|Mg 3<|Mw (.apx q1<|.rix<|.rst (az q) ((l++[u]).map aq)<|.go 0<|.frz 3 [] .fin)<|Ah rt (ip (tR 8 true ep 4<|aX iU l) rt) (et (ja _ _:([az q]:List AV)≠[]) rt) (et (ch (ax ep) (sA:n=(l.map aq).length) (by(refine aM (m:=2^31) ?_ ?_ ?_<;>(try simp only[lC,lN])<;>omega):small (n+([AV.agg [iV 0,iV 0,iV 0,iV 0,AV.str [],AV.nils,AV.nils,AV.nils]]).length) 120=true))<|ax q1) (et (ax<|ep+1) (oA:n<n+1)) rt (ip (tR 8 true (ep+1) 4 (by exact V8 _ rfl:aj q1=0)) rt) (ch (ax<|ep+1) (P2 (f:=aq) (l:=l) (z:=az q) (oA:n=(l).length))<|PY (f:=aq) (g:=Go.Ev.eU) aR (l:=l) (z:=az q) (w:=u) (oA:n=(l).length)) (kF (tR 8 true (ep+1) 3<|aX iU<|l++[u]) rt rt ti) a
theorem Hm(s:PStep)(rs:List PStep):∀(u:TUnit),∀(ep n:Nat)(l:List TUnit),n=l.length->l.length+nU u<2^30->kC 109 [eU u,.func (.func 110) [] [.ptr 0 0 0 0,.ptr 1 0 0 0]] (av [jt (s::rs),EC ep n,Bl ep l])
    (fun v h=>∃y:Nat×Nat×List TUnit,(y.2.1=y.2.2.length/\y.2.2=l++lF s u)/\v=.tuple []/\h=av [jt (s::rs),EC y.1 y.2.1,Bl y.1 y.2.2]):=by
  refine TUnit.ind fun u ih ep n l hn hl=>?_
  have hq:=jk u
  have hkl:=bf u
  have hp:=za s u
  rcases Bool.eq_false_or_eq_true (bC s u)with hc|hc
  · rw[hc]at hp
    exact qx Tryz.func109 fun a=>K1 2 (.frz 3 [1,2,6,7]) (kF (tR 8 true ep 3<|aX iU l) rt rt ti)<|Me (NA s rs u ep n l hc hn oA)<|Kl 2 11 (ln aq u.kids)<|Mg 0<|Su aq u.kids (ep+1) (n+1) (l++[u]) [1,10,11,12] (fun a _ b c d=>([bQ (aT 110) [] [au 0 0 0 0,au 1 0 0 0],aW<|u.kids.map aq,nV u.kids.length,nV a],[aZ 1 false 0 [aW<|(s::rs).map aY],aZ 1 false 0 [aD 2 b 0 c none],aZ 8 true b<|d.map aq])) (fun a _ b c=>b=c.length/\c++dq s a=l++[u]++dq s u.kids/\c.length+eJ a<2^30) gR (fun _ _ b c d _ _ _ e _=>Kh 0 e<|Mf<|a (b,c,d)<|by grind[m0]) fun a _ b c d e f g i j k m _ o _=>have o:=(o).trans<|congrArg some<|aR g;have:=cb (J:=fun a b=>b.2.1=b.2.2.length/\b.2.2++dq s a=l++[u]++dq s u.kids/\b.2.2.length+eJ a<2^30) (a:=(b,c,d)) k f;have e:=aI e k;have f:d.length+nU g<2^30:=(by grind[be]);Kt 0 m<|Mx o<|K1 4 (.frz 3 [1,10,11,12,16,17]) (kF (tR 8 true b 3<|aX iU d) rt rt ti)<|Mq (ih g e b c d oA f) fun b _=>Kl 0 19 (dU a)<|Kf 0<|j b.1 b.2.1 b.2.2<|by grind[be,gS,mB]
  · rw[hc]at hp
    exact qx Tryz.func109 fun a=>K1 2 (.frz 3 [1,2,6,7]) (kF (tR 8 true ep 3<|aX iU l) rt rt ti)<|Me (Nu s rs u ep n l hc)<|Kl 2 11 (ln aq u.kids)<|Mg 0<|Su aq u.kids ep n l [1,10,11,12] (fun a _ b c d=>([bQ (aT 110) [] [au 0 0 0 0,au 1 0 0 0],aW<|u.kids.map aq,nV u.kids.length,nV a],[aZ 1 false 0 [aW<|(s::rs).map aY],aZ 1 false 0 [aD 2 b 0 c none],aZ 8 true b<|d.map aq])) (fun a _ b c=>b=c.length/\c++dq s a=l++dq s u.kids/\c.length+eJ a<2^30) gR (fun _ _ b c d _ _ _ e _=>Kh 0 e<|Mf<|a (b,c,d)<|by grind[m0]) fun a _ b c d e f g i j k m _ o _=>have o:=(o).trans<|congrArg some<|aR g;have:=cb (J:=fun a b=>b.2.1=b.2.2.length/\b.2.2++dq s a=l++dq s u.kids/\b.2.2.length+eJ a<2^30) (a:=(b,c,d)) k f;have e:=aI e k;have f:d.length+nU g<2^30:=(by grind[be]);Kt 0 m<|Mx o<|K1 4 (.frz 3 [1,10,11,12,16,17]) (kF (tR 8 true b 3<|aX iU d) rt rt ti)<|Mq (ih g e b c d oA f) fun b _=>Kl 0 19 (dU a)<|Kf 0<|j b.1 b.2.1 b.2.2<|by grind[be,gS,mB]
theorem Hn(s:PStep)(rs:List PStep):∀(u:TUnit),nU u<=2^20->By (lF s u).isEmpty true->kD 109 [eU u,.func (.func 110) [] [.ptr 0 0 0 0,.ptr 1 0 0 0]] (av [jt (s::rs),Nj]) (.tuple []) (av [jt (s::rs),Nj]):=by
  refine TUnit.ind fun u ih hn he=>?_
  have hkl:=bf u
  have hp:=za s u
  have he':=qU.1 (show(lF s u).isEmpty=true from he)
  rw[he']at hp
  rcases Bool.eq_false_or_eq_true (bC s u)with hc|hc
  · grind
  · rw[hc]at hp
    have hp:dq s u.kids=[]:=hp.symm
    exact dE Tryz.func109 fun a=>K1 2 (.frz 2 [1,2,6,7]) (ch rt rt ti)<|Me (CP s rs u hc)<|Kl 2 11 (ln aq u.kids)<|Mg 0<|tw aq u.kids [1,10,11,12] (fun a _=>([bQ (aT 110) [] [au 0 0 0 0,au 1 0 0 0],aW<|u.kids.map aq,nV u.kids.length,nV a],[aZ 1 false 0 [aW<|(s::rs).map aY],aZ 1 false 0 [ak]])) (fun a=>dq s a=[]) oA (fun _ _ _ _ _ b _=>Kh 0 b<|Mf a) fun a _ b _ c d e f g _ h i=>have h:=h.trans<|congrArg some<|aR c;have j:=aI b f;have b:=bO (tc<|iL<|aI b f) hn;have f:(lF s c).isEmpty=true:=(by rw[gS]at i;rw[(List.append_eq_nil_iff.1 i).1];rfl);Kt 0 g<|Mx h<|K1 4 (.frz 2 [1,10,11,12,16,17]) (ch rt rt ti)<|Me (ih c j b f)<|Kl 0 19 (dU a)<|Kf 0<|e<|by grind[gS]
theorem Ri(s:PStep)(rs:List PStep):∀(u:TUnit),nU u<=2^20->By (lF s u).isEmpty false->kC 109 [eU u,.func (.func 110) [] [.ptr 0 0 0 0,.ptr 1 0 0 0]] (av [jt (s::rs),Nj])
    (fun v h=>∃y:Nat×Nat×List TUnit,(y.2.1=y.2.2.length/\y.2.2=lF s u)/\v=.tuple []/\h=av [jt (s::rs),EC y.1 y.2.1,Bl y.1 y.2.2]):=by
  refine TUnit.ind fun u ih hn he=>?_
  have hq:=jk u
  have hkl:=bf u
  have hp:=za s u
  rcases Bool.eq_false_or_eq_true (bC s u)with hc|hc
  · rw[hc]at hp
    exact qx Tryz.func109 fun a=>K1 2 (.frz 2 [1,2,6,7]) (ch rt rt ti)<|Me (Jk s rs u hc)<|Kl 2 11 (ln aq u.kids)<|Mg 0<|Su aq u.kids (0:Nat) (1:Nat) ([u]:List TUnit) [1,10,11,12] (fun a _ b c d=>([bQ (aT 110) [] [au 0 0 0 0,au 1 0 0 0],aW<|u.kids.map aq,nV u.kids.length,nV a],[aZ 1 false 0 [aW<|(s::rs).map aY],aZ 1 false 0 [aD 2 b 0 c none],aZ 8 true b<|d.map aq])) (fun a _ b c=>b=c.length/\c++dq s a=[u]++dq s u.kids/\c.length+eJ a<2^30) gR (fun _ _ b c d _ _ _ e _=>Kh 0 e<|Mf<|a (b,c,d)<|by grind[m0]) fun a _ b c d e f g i j k l _ m _=>have m:=(m).trans<|congrArg some<|aR g;have:=cb (J:=fun a b=>b.2.1=b.2.2.length/\b.2.2++dq s a=[u]++dq s u.kids/\b.2.2.length+eJ a<2^30) (a:=(b,c,d)) k f;have:=aI e k;have e:d.length+nU g<2^30:=(by grind[be]);Kt 0 l<|Mx m<|K1 4 (.frz 3 [1,10,11,12,16,17]) (kF (tR 8 true b 3<|aX iU d) rt rt ti)<|Mq (Hm s rs g b c d oA e) fun b _=>Kl 0 19 (dU a)<|Kf 0<|j b.1 b.2.1 b.2.2<|by grind[be,gS,mB]
  · rw[hc]at hp
    have hne:dq s u.kids≠[]:=fun e=>by
      simp_all
    exact qx Tryz.func109 fun a=>K1 2 (.frz 2 [1,2,6,7]) (ch rt rt ti)<|Me (CP s rs u hc)<|Kl 2 11 (ln aq u.kids)<|Mg 0<|kB Nat Nat (List TUnit) aq u.kids [1,10,11,12] (fun a _=>([bQ (aT 110) [] [au 0 0 0 0,au 1 0 0 0],aW<|u.kids.map aq,nV u.kids.length,nV a],[aZ 1 false 0 [aW<|(s::rs).map aY],aZ 1 false 0 [ak]])) (fun a _ b c d=>([bQ (aT 110) [] [au 0 0 0 0,au 1 0 0 0],aW<|u.kids.map aq,nV u.kids.length,nV a],[aZ 1 false 0 [aW<|(s::rs).map aY],aZ 1 false 0 [aD 2 b 0 c none],aZ 8 true b<|d.map aq])) (fun a=>a≠[]/\dq s a=dq s u.kids) (fun a _ b c=>b=c.length/\c++dq s a=dq s u.kids/\c.length+eJ a<2^30) (by(exact⟨KL rfl hne,rfl⟩)) (fun _ _ _ _ _ _ _=>Mw .abs (sA:False)) (fun a _ b c d f g i j k _ l _=>have l:=(l).trans<|congrArg some<|aR d;have:=cb (J:=fun a _=>a≠[]/\dq s a=dq s u.kids) (a:=()) j c;have c:=aI b j;have m:=bO (tc<|iL<|aI b j) hn;have:nU d+eJ f<=2^20:=(by have z:=o9 b j;omega);Kt 0 k<|Mx l<|K1 4 (.frz 2 [1,10,11,12,16,17]) (ch rt rt ti)<|Ms (lF s d).isEmpty (fun b=>Me (Hn s rs d m b)<|Kl 0 19 (dU a)<|Kf 0<|g<|by(have e:dq s f=dq s u.kids:=(by grind[gS]);exact⟨KL e hne,e⟩)) fun b=>Mq (ih d c m b) fun b _=>Kl 0 19 (dU a)<|Kf 0<|i b.1 b.2.1 b.2.2<|by grind[gS,mB]) (fun _ _ b c d _ _ _ f g=>Kh 0 f<|Mf<|a (b,c,d)<|by(refine⟨g.1,?_⟩;have:=g.2.1;rw[m0,ei]at this;simp_all)) fun a _ b c d f g i j _ k l m _ n _=>have n:=(n).trans<|congrArg some<|aR i;have:=cb (J:=fun a b=>b.2.1=b.2.2.length/\b.2.2++dq s a=dq s u.kids/\b.2.2.length+eJ a<2^30) (a:=(b,c,d)) l g;have:=aI f l;have:=bO (tc<|iL<|aI f l) hn;have:nU i+eJ j<=2^20:=(by have z:=o9 f l;omega);Kt 0 m<|Mx n<|K1 4 (.frz 3 [1,10,11,12,16,17]) (kF (tR 8 true b 3<|aX iU d) rt rt ti)<|Mq (Hm s rs i b c d oA<|by grind[be]) fun b _=>Kl 0 19 (dU a)<|Kf 0<|k b.1 b.2.1 b.2.2<|by grind[gS,mB]
theorem Ur(u:TUnit)(hb:ku []=true):kP 74 [eU u,.ls (([]:List PStep).map aY)] (.ls ((dl u []).map aq)):=by
  have hv:=rz [] (by simp) (fun s h=>by grind)
  rw[G9 hb]
  have rr0 b' (h:(List.map aq [u])=b':=by(rw[eu,aR];rfl)):=h;let q:=[az [iV u.act,iV u.item,iV u.n,iV u.kind,aV u.label,aW (u.head.map aQ),aW (u.words.map aQ),aW (u.kids.map aq)]];exact bo Tryz.func74<|Kp 3 hv<|Kf 10 (Le.lsp (rr0 q)<|by rfl:Le _ (AV.ps q true))
def HW(u:TUnit)(s:PStep)(rs:List PStep)(z1000:List TUnit):Prop:=dl u (s::rs)=gC rs z1000/\eJ z1000<=2^22
noncomputable def HX(u:TUnit)(s:PStep)(rs:List PStep)(z1000:List TUnit):List AV×List AObj:=([AV.ptr 0 0 0 0,AV.ptr 1 0 0 0],[AObj.row 1 false 0 [AV.ls ((s::rs).map aY)],AObj.row 1 false 0 [AV.ls (z1000.map aq)]])
theorem Q4(u:TUnit)(s:PStep)(rs:List PStep)(hn:nU u<=2^11)(hl:(s::rs).length<2^40)(hs:∀x,x∈s::rs->x.label.length<=2^39):kP 74 [eU u,.ls ((s::rs).map aY)] (.ls ((dl u (s::rs)).map aq)):=by
  have hv:=rz (s::rs) hl hs
  have hk:=vk s
  have hpb:=Gw s u fun x hx=>dT hx
  have hpm:nU u*nU u<=2^11*2^11:=Nat.mul_le_mul hn hn
  have hd:((s::rs).drop 1).length=rs.length:=rfl
  have rr0 b' (h:((dl u (s::rs)).map aq)=b':=by first|rfl|(rw[Jj ‹_›];rfl)|(rw[hj0.1,Ii])):=h;exact bo Tryz.func74<|Kp 3 hv<|Kn 0 (ku<|s::rs) (fun _=>Kf 0 (Le.lsn<|rr0 []:Le _ (ak))) fun _=>Mg 0<|Mj (List TUnit) [3,5] (HX u s rs) (HW u s rs) (fun a=>Kl 1 21 (ln aY<|s::rs)<|Kp 5 hk<|Kb 0 (ae s.kind 0&&eV s.label []) (fun _=>Kl 1 31 (Le.lsp (t:=true) (Eq.symm<|T6 (f:=aq) (g:=Go.Ev.eU) (ws:=[u]) aR) (ax 0:aj ([az [iV u.act,iV u.item,iV u.n,iV u.kind,aV u.label,aW (u.head.map aQ),aW (u.words.map aQ),aW (u.kids.map aq)]])=0))<|Mg 0<|M0 (.ren [1,2,0] [] [3,5])<|M1 (.frz 2 [3,5]) (ch rt rt ti)<|Mf<|a [u] (by exact⟨HQ (by omega) (by assumption),by grind[be,mg]⟩:dl u (s::rs)=gC rs [u]/\eJ [u]<=2^22)) fun _=>Mg 1<|M0 (.ren [1,2,0] [] [3,5,16,17])<|M1 (.frz 2 [3,5,16,17]) (ch rt rt ti)<|Ms (lF s u).isEmpty (fun b=>Me (Hn s rs u oA b)<|M1 (.obw 1<|aW []) (Wg bA rfl rfl)<|Mf<|a [] (by exact⟨by rw[xq (by omega) (by assumption),qU.1 b],by grind⟩:dl u (s::rs)=gC rs []/\eJ []<=2^22)) fun b=>Mq (Ri s rs u oA b) fun b c=>M2 (.fzo 1 2 [3,5]<|b.2.2.map aq) (ch rt rt ti) (ch (ax b.1) (tA aq b.2.2 b.2.1 (oA:(b.2.2).length=b.2.1))<|aX iU b.2.2)<|Mf<|a b.2.2 (by exact⟨by rw[xq (by omega) (by assumption),c.2],by grind⟩:dl u (s::rs)=gC rs b.2.2/\eJ b.2.2<=2^22)) fun a b=>have:dl u (s::rs)=gC rs a/\eJ a<=2^22:=b;K1 0 (.slp<|((s::rs).drop 1).map aY) (ch (hM 2 aY (s::rs) fun _=>rfl) (et (sA:1<=((s::rs).map aY).length) (oA:((s::rs).map aY).length<=((s::rs).map aY).length))<|Yz (f:=aY) (l:=s::rs) (k:=1))<|Kl 0 34 (ln aY<|List.drop 1<|s::rs)<|Mg 0<|M0 (.ren [1,0] [] [5,33,34,35])<|M1 (.frz 1 [5,33,34,35]) (et rt ti)<|L5 aY (List.drop 1<|s::rs) a [5,33,34,35] (fun a _ b=>([au 0 0 0 0,aW<|((s::rs).drop 1).map aY,nV ((s::rs).drop 1).length,nV a],[aZ 1 false 0 [aW<|b.map aq]])) (fun a b=>dl u (s::rs)=gC a b/\eJ b<=2^22) sA (fun _ _ a _ _ _ b hj0=>Kh 0 b<|Kf 1<|cn<|rr0<|a.map aq) fun a _ b _ _ c d e _ f _ g hj0=>have:b.length<=eJ b:=yx _;Kt 0 f<|Mx g<|Kl 5 40 (ln aq b)<|Mg 0<|kB Nat Nat (List TUnit) aq b [5,7,8,33,34,35,39,40,41] (fun d _=>([au 0 0 0 0,au 1 0 0 0,ak,aW<|((s::rs).drop 1).map aY,nV ((s::rs).drop 1).length,nV a,aW<|b.map aq,nV b.length,nV d],[aZ 1 false 0 [aW<|b.map aq],aZ 2 false 0 [az [iV c.kind,aV c.label]]])) (fun d _ e f g=>([au 0 0 0 0,au 1 0 0 0,aD 2 e 0 f none,aW<|((s::rs).drop 1).map aY,nV ((s::rs).drop 1).length,nV a,aW<|b.map aq,nV b.length,nV d],[aZ 1 false 0 [aW<|b.map aq],aZ 2 false 0 [az [iV c.kind,aV c.label]],aZ 8 true e<|g.map aq])) (fun a=>ce c a=ce c b) (fun a _ d e=>d=e.length/\e++ce c a=ce c b/\e.length+eJ a<2^30) (by rfl) (fun _ _ _ _ _ b c=>Kh 0 b<|Kl 0 61 bA<|Kl 1 62 (dU a)<|K1 0 (.frz 1 [5,33,34,35]) (et rt ti)<|Mf<|e []<|by exact fA hj0 c) (fun d _ e f g i j k l n _ o _=>have p:=(o).trans<|congrArg some<|aR g;have:=cb (J:=fun a _=>ce c a=ce c b) (a:=()) l f;have:nU g+eJ i<=eJ b:=o9 e l;have:g.kids.length<nU g:=bf g;have:nU g=1+eJ g.kids:=jk g;Kt 0 n<|Mx p<|Kl 5 47 (ln aq g.kids)<|K1 0 (.frz 2 [5,7,8,33,34,35,39,40,41,46,47,48]) (ch rt rt ti)<|kB Nat Nat (List TUnit) aq g.kids [5,7,8,33,34,35,39,40,41,46,47,48] (fun e _=>([au 0 0 0 0,au 1 0 0 0,ak,aW<|((s::rs).drop 1).map aY,nV ((s::rs).drop 1).length,nV a,aW<|b.map aq,nV b.length,nV d,aW<|g.kids.map aq,nV g.kids.length,nV e],[aZ 1 false 0 [aW<|b.map aq],aZ 2 false 0 [az [iV c.kind,aV c.label]]])) (fun e _ f i j=>([au 0 0 0 0,au 1 0 0 0,aD 2 f 0 i none,aW<|((s::rs).drop 1).map aY,nV ((s::rs).drop 1).length,nV a,aW<|b.map aq,nV b.length,nV d,aW<|g.kids.map aq,nV g.kids.length,nV e],[aZ 1 false 0 [aW<|b.map aq],aZ 2 false 0 [az [iV c.kind,aV c.label]],aZ 8 true f<|j.map aq])) (fun a=>List.filter (bC c) a++ce c i=ce c b) (fun a _ d e=>d=e.length/\e++(List.filter (bC c) a++ce c i)=ce c b/\e.length+(eJ a+eJ i)<2^30) (by simp_all[gA]) (fun _ _ _ _ _ a _=>Kh 0 a<|Kl 0 60 (dU d)<|Kf 0<|j sA) (fun a _ d e f j k l n p _ o _=>have o:=(o).trans<|congrArg some<|aR f;have:=cb (J:=fun a _=>List.filter (bC c) a++ce c i=ce c b) (a:=()) n e;have:nU f+eJ j<=eJ g.kids:=o9 d n;Kt 0 p<|Mx o<|Kp 4 (lk f c)<|Mb (bC c f) (fun _=>K1 3 (.obj 3<|aZ 8 true 0<|List.map aq [f]) (congrArg (aZ 8 true 0)<|T6 (f:=aq) (g:=Go.Ev.eU) (ws:=[f]) aR)<|Kl 1 59 (dU a)<|K1 0 (.ren [0,1,3,2] [3] [5,7,8,33,34,35,39,40,41,46,47,48]) (tS 8 true 0<|aX iU [f])<|M1 (.frz 3 [5,7,8,33,34,35,39,40,41,46,47,48]) (kF (tR 8 true 0 3<|aX iU [f]) rt rt ti)<|Mf<|l 0 1 [f] gR) fun _=>Kl 0 59 (dU a)<|K1 0 (.frz 2 [5,7,8,33,34,35,39,40,41,46,47,48]) (ch rt rt ti)<|Mf<|k sA) (fun _ _ a e f _ _ _ g _=>Kh 0 g<|Kl 0 60 (dU d)<|Kf 0<|k a e f gR) fun a _ d e f j k l n _ p q r _ o _=>have o:=(o).trans<|congrArg some<|aR l;have k:=cb (J:=fun a d=>d.2.1=d.2.2.length/\d.2.2++(List.filter (bC c) a++ce c i)=ce c b/\d.2.2.length+(eJ a+eJ i)<2^30) (a:=(d,e,f)) q k;have:nU l+eJ n<=eJ g.kids:=o9 j q;Kt 0 r<|Mx o<|Kp 4 (lk l c)<|Mb (bC c l) (fun _=>K1 2 .app (ch (ax d) (sA:e=(f.map aq).length) (by(refine aM (m:=2^31) ?_ ?_ ?_<;>omega):small (e+1) 120=true))<|M1 (.obj 2<|aZ 8 true (d+1)<|(f++[l]).map aq) (congrArg (aZ 8 true<|d+1)<|yk (f:=aq) (g:=Go.Ev.eU) (l:=f) (ws:=[l]) aR)<|Kl 1 59 (dU a)<|K1 0 (.frz 3 [5,7,8,33,34,35,39,40,41,46,47,48]) (kF (tR 8 true (d+1) 3<|aX iU<|f++[l]) rt rt ti)<|Mf<|p (d+1) (e+1) (f++[l])<|by exact hB1 k (by omega)) fun _=>Kl 0 59 (dU a)<|K1 0 (.frz 3 [5,7,8,33,34,35,39,40,41,46,47,48]) (kF (tR 8 true d 3<|aX iU f) rt rt ti)<|Mf<|p d e f<|by exact hB0 k (by omega)) (fun _ _ b c f _ _ _ g i=>let j:=List.map aq f;Kh 0 g<|Mg 0<|M2 (.fsl 2 [5,33,34,35] 61 j) (ch rt rt ti) (ch (ax b) (tA aq f c (oA:(f).length=c))<|aX iU f)<|Ml 61 (fY j false<|aX iU f)<|Kl 1 62 (dU a)<|K1 0 (.frz 1 [5,33,34,35]) (et rt ti)<|Mf<|e f<|by exact fB hj0 i.2.1) fun d _ e f g i j k l _ n o p _ q _=>have r:=(q).trans<|congrArg some<|aR k;have j:=cb (J:=fun a d=>d.2.1=d.2.2.length/\d.2.2++ce c a=ce c b/\d.2.2.length+eJ a<2^30) (a:=(e,f,g)) o j;have:nU k+eJ l<=eJ b:=o9 i o;have:k.kids.length<nU k:=bf k;have:nU k=1+eJ k.kids:=jk k;Kt 0 p<|Mx r<|Kl 5 47 (ln aq k.kids)<|K1 0 (.frz 3 [5,7,8,33,34,35,39,40,41,46,47,48]) (kF (tR 8 true e 3<|aX iU g) rt rt ti)<|Su aq k.kids e f g [5,7,8,33,34,35,39,40,41,46,47,48] (fun e _ f g i=>([au 0 0 0 0,au 1 0 0 0,aD 2 f 0 g none,aW<|((s::rs).drop 1).map aY,nV ((s::rs).drop 1).length,nV a,aW<|b.map aq,nV b.length,nV d,aW<|k.kids.map aq,nV k.kids.length,nV e],[aZ 1 false 0 [aW<|b.map aq],aZ 2 false 0 [az [iV c.kind,aV c.label]],aZ 8 true f<|i.map aq])) (fun a _ d e=>d=e.length/\e++(List.filter (bC c) a++ce c l)=ce c b/\e.length+(eJ a+eJ l)<2^30) (by(exact gB j)) (fun _ _ a e f _ _ _ g _=>Kh 0 g<|Kl 0 60 (dU d)<|Kf 0<|n a e f gR) fun a _ d e f g i j n o p r _ q _=>have q:=(q).trans<|congrArg some<|aR j;have i:=cb (J:=fun a d=>d.2.1=d.2.2.length/\d.2.2++(List.filter (bC c) a++ce c l)=ce c b/\d.2.2.length+(eJ a+eJ l)<2^30) (a:=(d,e,f)) p i;have:nU j+eJ n<=eJ k.kids:=o9 g p;Kt 0 r<|Mx q<|Kp 4 (lk j c)<|Mb (bC c j) (fun _=>K1 2 .app (ch (ax d) (sA:e=(f.map aq).length) (by(refine aM (m:=2^31) ?_ ?_ ?_<;>omega):small (e+1) 120=true))<|M1 (.obj 2<|aZ 8 true (d+1)<|(f++[j]).map aq) (congrArg (aZ 8 true<|d+1)<|yk (f:=aq) (g:=Go.Ev.eU) (l:=f) (ws:=[j]) aR)<|Kl 1 59 (dU a)<|K1 0 (.frz 3 [5,7,8,33,34,35,39,40,41,46,47,48]) (kF (tR 8 true (d+1) 3<|aX iU<|f++[j]) rt rt ti)<|Mf<|o (d+1) (e+1) (f++[j])<|by exact hB1 i (by omega)) fun _=>Kl 0 59 (dU a)<|K1 0 (.frz 3 [5,7,8,33,34,35,39,40,41,46,47,48]) (kF (tR 8 true d 3<|aX iU f) rt rt ti)<|Mf<|o d e f<|by exact hB0 i (by omega)
theorem Ll(u:TUnit)(p:List PStep)(hn:nU u<=2^11)(hl:p.length<2^40)(hs:∀x,x∈p->x.label.length<=2^39):kP 74 [eU u,.ls (p.map aY)] (.ls ((dl u p).map aq)):=by
  cases p with
  |nil=>exact Ur u rfl
  |cons s rs=>grind[Q4]
theorem C2(u:TUnit)(p:List PStep)(L:List TUnit)(hf:kP 74 [eU u,.ls (p.map aY)] (.ls (L.map aq)))(hL:L.length<=2^22):kP 39 [eU u,.ls (p.map aY)] (.ls ((L.map bw).map aJ)):=by
  have rr0 b' (h:((L.map bw).map aJ)=b':=by first|rfl|(rw[<-hj0];rfl)|(rw[<-hj0.2.2.1];simp)):=h;exact bo Tryz.func39<|Kp 4 hf<|Kl 0 11 (ln aq L)<|K1 0 (.frz 0 [5,10,11,12]) ti<|kB Nat Nat (List PId) aq L [5,10,11,12] (fun a _=>([ak,aW<|L.map aq,nV L.length,nV a],[])) (fun a _ b c d=>([aD 0 b 0 c none,aW<|L.map aq,nV L.length,nV a],[aZ 3 true b<|d.map aJ])) (fun a=>a=L) (fun a _ b c=>b=c.length/\(0:Nat)<c.length/\c++List.map bw a=List.map bw L/\c.length+a.length=L.length) (by rfl) (fun _ _ _ _ _ a hj0=>Kh 0 a<|Kf 1 (Le.lsn<|rr0 []:Le _ (ak))) (fun a _ _ b c d _ e f g _ i _=>have i:=(i).trans<|congrArg some<|aR c;have hj0:=cb (J:=fun a _=>a=L) (a:=()) f b;Kt 0 g<|Mx i<|Kl 9 21 (iF a)<|Mg 0<|M0 (.ren [1,0] [] [5,10,11,12])<|M1 (.frz 1 [5,10,11,12]) (et rt ti)<|Mf<|e 0 1 [PId.mk c.act c.item c.n]<|by(refine⟨rfl,by simp,?_,?_⟩<;>(rw[<-hj0])<;>(first|rfl|grind))) (fun _ _ a b c _ _ _ d hj0=>Kh 0 d<|Mg 1<|M2 (.fsl 0 [] 4<|c.map aJ) ti (ch (ax a) (tA aJ c b (oA:(c).length=b))<|aX Jl c)<|Ml 4 (fY (c.map aJ) false<|aX Jl c)<|Mf<|cn<|rr0<|c.map aJ) fun a _ b c d _ e f g _ i j k _ l _=>have l:=(l).trans<|congrArg some<|aR f;have hj0:=cb (J:=fun a b=>b.2.1=b.2.2.length/\(0:Nat)<b.2.2.length/\b.2.2++List.map bw a=List.map bw L/\b.2.2.length+a.length=L.length) (a:=(b,c,d)) j e;Kt 0 k<|Mx l<|K1 6 .app (ch (ax b) (sA:c=(d.map aJ).length) (by(refine aM (m:=2^25) ?_ ?_ ?_<;>omega):small (c+1) 24=true))<|M1 (.obj 0<|aZ 3 true (b+1)<|(d++[PId.mk f.act f.item f.n]).map aJ) (congrArg (aZ 3 true<|b+1)<|dJ (f:=aJ) (l:=d) (ws:=[PId.mk f.act f.item f.n]))<|Kl 1 21 (iF a)<|K1 0 (.frz 1 [5,10,11,12]) (et (tR 3 true (b+1) 1<|aX Jl<|d++[PId.mk f.act f.item f.n]) ti)<|Mf<|i (b+1) (c+1) (d++[PId.mk f.act f.item f.n])<|by(refine⟨by simp_all,by simp,?_,?_⟩<;>first|(rw[<-hj0.2.2.1,eu,qY];rfl)|(rw[<-hj0.2.2.1];simp;done)|grind)
theorem NC(u:TUnit)(p:List PStep)(hf:kP 39 [eU u,.ls (p.map aY)] (.ls (([]:List PId).map aJ))):kP 14 [eU u,.ls (p.map aY)] (.tuple [aJ bN,iV 7]):=by
  exact bo Tryz.func14<|Kp 4 hf<|Kf 8<|bY<|dg [az [iV 0,iV 0,iV 0],iV 7]
theorem NE(u x:TUnit)(p:List PStep)(hf:kP 39 [eU u,.ls (p.map aY)] (.ls ([bw x].map aJ))):kP 14 [eU u,.ls (p.map aY)] (.tuple [aJ (bw x),iV 0]):=by
  exact bo Tryz.func14<|Kp 4 hf<|Kf 13<|bY<|dg [az [iV (bw x).a,iV (bw x).i,iV (bw x).n],iV 0]
theorem ND(u:TUnit)(p:List PStep)(a b:PId)(r:List PId)(hf:kP 39 [eU u,.ls (p.map aY)] (.ls ((a::b::r).map aJ))):kP 14 [eU u,.ls (p.map aY)] (.tuple [aJ bN,iV 8]):=by
  have q1:ae (Int.ofNat (r.length+1+1)) 0=false:=rfl
  have q2:ae (Int.ofNat (r.length+1+1)) 1=false:=rfl
  exact bo Tryz.func14<|Kp 4 hf<|Kl 2 11 (ln aJ<|a::b::r)<|Kf 8<|bY<|dg [az [iV 0,iV 0,iV 0],iV 8]
theorem NB(u:TUnit)(p:List PStep)(hf:kP 74 [eU u,.ls (p.map aY)] (.ls ((dl u p).map aq)))(hn:nU u<=2^11):kP 14 [eU u,.ls (p.map aY)] (.tuple [aJ (ab u p).1,iV (ab u p).2]):=by
  have ha:=C2 u p (dl u p) hf (tJ p hn)
  cases e:dl u p with
  |nil=>grind[xw,NC]
  | cons x r=>
    cases r with
    |nil=>grind[xk,NE]
    |cons y r=>grind[xj,ND]
noncomputable abbrev zU:AV:=.agg [iV 0,iV 0,iV 0,iV 0,.str [],.nils,.nils,.nils]
noncomputable abbrev dM(xs:List AV):AObj:=.row 8 false 0 xs
theorem UN{L Z:List AV}{n i:Nat}(hn:L.length=n)(hi:i<n):((L++Z).drop (i+1)).take (n-(i+1))=L.drop (i+1):=by
  grind
theorem UO{L Z:List AV}{n i:Nat}(hn:L.length=n)(hi:i<n):bG (L++Z) (0+i) (L.drop (i+1))=L.eraseIdx i++(L.drop (n-1)++Z):=by
  unfold bG
  grind
theorem Eu{L Z:List AV}{z:AV}{n i:Nat}(hn:L.length=n)(hi:i<n):bG (L.eraseIdx i++(L.drop (n-1)++Z)) (n-1) (List.replicate 1 z)=L.eraseIdx i++(z::Z):=by
  unfold bG
  have h1:(L.eraseIdx i).length=n-1:=by grind
  have h2:(L.drop (n-1)).length=1:=by grind
  grind
theorem Yr{a b:Nat}(h:a≠b):ae (Int.ofNat a) (Int.ofNat b)=false:=by
  grind[nL]
theorem Ru(L Z:List AV)(n k i:Nat)(hi:i+1<n)(hn:L.length=n)(hs:n<=2^20)(hf:dG 8 L=true)(hZ:Z.length=k)(hT:aj (L++Z)=0):kD 248 [.slice 0 0 0 n (some (n+k)),nV i,nV (i+1)] (av [dM (L++Z)]) (.slice 0 0 0 (n-1) (some (n+k))) (av [dM (L.eraseIdx i++(zU::Z))]):=by
  have hq:ae (Int.ofNat i) (Int.ofNat (i+1))=false:=Yr (by omega)
  let q:=AHeap.mk 1000000 (bF (av [aZ 8 false 0 (L++Z)]) ([0]) Tr.nil);let q1:=av [aZ 8 false 0 (L.eraseIdx i++(L.drop (n-1)++Z))];let q2:=av [aZ 8 false 0 (L++Z)];let q3:=(some (aD 0 0 0 n (some (n+k))));let q4:=aD 0 0 (i+1) (n-(i+1)) (some (n+k-(i+1)));let q5:=(some (nV (i+1)));let q6:=(some (nV i));let q7:=(some (nV n));let q8:=AHeap.mk 1 (bF q2 ([0,0]) Tr.nil);let q9:=aD 0 0 0 (n-1) (some (n+k));let q10:=aD 0 0 (n-1) 1 (some (k+1));let q11:=aD 0 0 0 i (some (n+k));exact dE Tryz.func248 fun a=>Ko 5 (by exact DC (xs:=L++Z) (l:=i) (h:=i+1) (m:=n) (by kernel_rfl) (by rfl) (by rfl) (by rfl) (by omega) (by omega) (by omega) (by omega) (by omega) (by omega) (by omega):bv q2 (dV (8) q2 q3 q6 q5 q7)=some (ARes.val (AV.slice 0 0 i 1 (some (n-i))) q2))<|Kh 2 hq<|Kv 4 (by exact ic (xs:=L++Z) (l:=0) (h:=i) (by kernel_rfl) (by rfl) (by rfl) (by omega) (by omega) (by omega) (by omega) (by omega) (by omega):bv (q) (dV (8) (q) q3 (none) q6 (none))=some (ARes.val q11 q))<|Kv 1 (by exact ic (xs:=L++Z) (l:=i+1) (h:=n) (by kernel_rfl) (by rfl) (by rfl) (by omega) (by omega) (by omega) (by omega) (by omega) (by omega):bv (q) (dV (8) (q) q3 q5 (none) (none))=some (ARes.val q4 q))<|Md rt (ip (tR 8 false 0 1 (oA:aj (L++Z)=0))<|ip (tR 8 false 0 1 (oA:aj (L++Z)=0)) rt) (by exact L2 (new:=L.drop (i+1)) rfl (y8 rfl (UN hn (by omega))) (rD hf) (fun e=>by have:=congrArg List.length e;grind) (by grind) (by grind) (aM (m:=2^20) (by grind) (by omega) (by omega)) (by grind) (UO hn (by omega)):fy (de (8) (120) (q8) ((some q11)) ((some q4)))=some (ARes.val q9 (AHeap.put q8 0 (AObj.row 8 false 0 (L.eraseIdx i++(L.drop (n-1)++Z))))))<|Ko 4 (by exact ic (xs:=L.eraseIdx i++(L.drop (n-1)++Z)) (l:=n-1) (h:=n) (by kernel_rfl) (by rfl) (by rfl) (by omega) (by omega) (by omega) (by omega) (by omega) (by omega):bv q1 (dV (8) q1 ((some q9)) ((some (nV (n-1)))) q7 (none))=some (ARes.val q10 q1))<|Mo (by exact AH rfl (by kernel_rfl) (Eu hn (by omega)):fy (wx (8) (AV.agg [iV 0,iV 0,iV 0,iV 0,AV.str [],AV.nils,AV.nils,AV.nils]) q1 ((some q10)))=some (ARes.val (AV.tuple []) (av [AObj.row 8 false 0 (L.eraseIdx i++zU::Z)])))<|Kf 1 a
theorem Rs(L Z:List AV)(k i:Nat)(hn:L.length=i+1)(hs:i<2^20)(hk:0<k)(hZ:Z.length=k)(hT:aj (L++Z)=0):kD 248 [.slice 0 0 0 (i+1) (some (i+1+k)),nV i,nV (i+1)] (av [dM (L++Z)]) (.slice 0 0 0 i (some (i+1+k))) (av [dM (L.eraseIdx i++(zU::Z))]):=by
  have hq:ae (Int.ofNat i) (Int.ofNat (i+1))=false:=Yr (by omega)
  have hr:L.eraseIdx i++(L.drop (i+1-1)++Z)=L++Z:=by
    rw[Og,BH (by omega),ei,<-qY,show i+1-1=i from rfl,JR]
  have hc:bG (L++Z) i (List.replicate 1 zU)=L.eraseIdx i++(zU::Z):=by
    have h:=Eu (z:=zU) (Z:=Z) hn (show i<i+1 by omega)
    grind
  let q:=av [aZ 8 false 0 (L++Z)];let q1:=AHeap.mk 1000000 (bF q ([0]) Tr.nil);let q2:=(some (nV (i+1)));let q3:=aD 0 0 0 i (some (i+1+k));let q4:=(some (aD 0 0 0 (i+1) (some (i+1+k))));let q5:=(some (nV i));let q6:=AHeap.mk 1 (bF q ([0,0]) Tr.nil);let q7:=aD 0 0 (i+1) 0 (some k);let q8:=aD 0 0 i 1 (some (k+1));exact dE Tryz.func248 fun a=>Ko 5 (by exact DC (xs:=L++Z) (l:=i) (h:=i+1) (m:=i+1) (by kernel_rfl) (by rfl) (by rfl) (by rfl) (by omega) (by omega) (by omega) (by omega) (by omega) (by omega) (by omega):bv q (dV (8) q q4 q5 q2 q2)=some (ARes.val (AV.slice 0 0 i 1 (some 1)) q))<|Kh 2 hq<|Kv 4 (by exact ic (xs:=L++Z) (l:=0) (h:=i) (by kernel_rfl) (by rfl) (by rfl) (by omega) (by omega) (by omega) (by omega) (by omega) (by omega):bv (q1) (dV (8) (q1) q4 (none) q5 (none))=some (ARes.val q3 q1))<|Kv 1 (by exact ic (xs:=L++Z) (l:=i+1) (h:=i+1) (by kernel_rfl) (by rfl) (by rfl) (by omega) (by omega) (by omega) (by omega) (by omega) (by omega):bv (q1) (dV (8) (q1) q4 q2 (none) (none))=some (ARes.val q7 q1))<|Md rt (ip (tR 8 false 0 1 (oA:aj (L++Z)=0))<|ip (tR 8 false 0 1 (oA:aj (L++Z)=0)) rt) (by exact Sy (y8 rfl List.take_zero):fy (de (8) (120) (q6) ((some q3)) ((some q7)))=some (ARes.val q3 q6))<|Ko 4 (by exact ic (xs:=L++Z) (l:=i) (h:=i+1) (by kernel_rfl) (by rfl) (by rfl) (by omega) (by omega) (by omega) (by omega) (by omega) (by omega):bv q (dV (8) q ((some q3)) q5 q2 (none))=some (ARes.val q8 q))<|Mo (by exact AH rfl (by kernel_rfl) hc:fy (wx (8) (AV.agg [iV 0,iV 0,iV 0,iV 0,AV.str [],AV.nils,AV.nils,AV.nils]) q ((some q8)))=some (ARes.val (AV.tuple []) (av [AObj.row 8 false 0 (L.eraseIdx i++zU::Z)])))<|Kf 1 a
theorem Rr(L:List AV)(i:Nat)(hn:L.length=i+1)(hs:i<2^20)(hT:aj L=0):kD 248 [.slice 0 0 0 (i+1) (some (i+1)),nV i,nV (i+1)] (av [dM L]) (.slice 0 0 0 i (some (i+1))) (av [dM (L.eraseIdx i++[zU])]):=by
  have hq:ae (Int.ofNat i) (Int.ofNat (i+1))=false:=Yr (by omega)
  have hr:L.eraseIdx i++(L.drop (i+1-1)++[])=L:=by
    rw[Og,BH (by omega),ei,ei,show i+1-1=i from rfl,JR]
  have hc:bG L i (List.replicate 1 zU)=L.eraseIdx i++[zU]:=by
    have h:=Eu (z:=zU) (Z:=[]) hn (show i<i+1 by omega)
    grind
  let q:=av [aZ 8 false 0 L];let q1:=AHeap.mk 1000000 (bF q ([0]) Tr.nil);let q2:=(some (nV (i+1)));let q3:=aD 0 0 0 i (some (i+1));let q4:=(some (aD 0 0 0 (i+1) (some (i+1))));let q5:=(some (nV i));let q6:=aD 0 0 i 1 (some 1);let q7:=AHeap.mk 1 (bF q ([0,0]) Tr.nil);let q8:=aD 0 0 0 0 (some 0);exact dE Tryz.func248 fun a=>Ko 5 (by exact DC (xs:=L) (l:=i) (h:=i+1) (m:=i+1) (by kernel_rfl) (by rfl) (by rfl) (by rfl) (by omega) (by omega) (by omega) (by omega) (by omega) (by omega) (by omega):bv q (dV (8) q q4 q5 q2 q2)=some (ARes.val q6 q))<|Kh 2 hq<|Kv 4 (by exact ic (xs:=L) (l:=0) (h:=i) (by kernel_rfl) (by rfl) (by rfl) (by omega) (by omega) (by omega) (by omega) (by omega) (by omega):bv (q1) (dV (8) (q1) q4 (none) q5 (none))=some (ARes.val q3 q1))<|Kv 1 (by exact KY (xs:=L) (l:=i+1) (h:=i+1) (by kernel_rfl) (by rfl) (by rfl) (by rfl) rfl:bv (q1) (dV (8) (q1) q4 q2 (none) (none))=some (ARes.val q8 q1))<|Md rt (ip (tR 8 false 0 1 (oA:aj (L)=0))<|ip (tR 8 false 0 1 (oA:aj (L)=0)) rt) (by exact Sy (y8 rfl List.take_zero):fy (de (8) (120) (q7) ((some q3)) ((some q8)))=some (ARes.val q3 q7))<|Ko 4 (by exact ic (xs:=L) (l:=i) (h:=i+1) (by kernel_rfl) (by rfl) (by rfl) (by omega) (by omega) (by omega) (by omega) (by omega) (by omega):bv q (dV (8) q ((some q3)) q5 q2 (none))=some (ARes.val q6 q))<|Mo (by exact AH rfl (by kernel_rfl) hc:fy (wx (8) (AV.agg [iV 0,iV 0,iV 0,iV 0,AV.str [],AV.nils,AV.nils,AV.nils]) q ((some q6)))=some (ARes.val (AV.tuple []) (av [AObj.row 8 false 0 (L.eraseIdx i++[zU])])))<|Kf 1 a
theorem Rp(L Z:List AV)(n i:Nat)(hi:i<n)(hn:L.length=n)(hs:n<=2^20)(hf:dG 8 L=true)(hT:aj (L++Z)=0):kD 248 [.slice 0 0 0 n (some (n+Z.length)),nV i,nV (i+1)] (av [dM (L++Z)]) (.slice 0 0 0 (n-1) (some (n+Z.length))) (av [dM (L.eraseIdx i++(zU::Z))]):=by
  rcases eA (i+1) n with h|h
  · exact Ru L Z n _ i h hn hs hf rfl hT
  · obtain rfl:n=i+1:=by omega
    cases Z with
    |nil=>rw[ei];rw[ei]at hT;exact Rr L i hn (by omega) hT
    |cons z r=>exact Rs L (z::r) _ i hn (by omega) (ym _) rfl hT
def gG(i:Nat)(x:AV)(l:List AV):List AV:=l.take i++(x::l.drop i)
theorem AY{i:Nat}{x:AV}{l:List AV}(h:i<=l.length):(gG i x l).length=l.length+1:=by
  grind[gG]
theorem GG{x:AV}{l:List AV}{n:Nat}(h:l.length=n):gG n x l=l++[x]:=by
  grind[gG]
theorem Y8(n:Nat):ae (Int.ofNat n) (Int.ofNat n)=true:=bg _
theorem aal{a b:Nat}(h:a<b):aB (Int.ofNat a) (Int.ofNat b)=true:=nG (by simp_all)
theorem aam{a b:Nat}(h:b<=a):aB (Int.ofNat a) (Int.ofNat b)=false:=kw (by simp_all)
theorem UH{L Z:List AV}{x z:AV}{n:Nat}(h:L.length=n):bG (L++z::Z) (0+n) [x]=gG n x L++Z:=by
  unfold bG
  rw[GG h,fO,<-h,List.take_left,show(L++z::Z).drop (L.length+[x].length)=Z by rw[<-BM,List.drop_left];rfl]
theorem TO{L Z:List AV}{z:AV}{n i:Nat}(h:L.length=n)(hi:i<n):bG (L++z::Z) (i+1) (L.drop i)=L.take (i+1)++(L.drop i++Z):=by
  unfold bG
  rw[List.take_append_of_le_length (by omega),qY,yn,show i+1+(L.length-i)=L.length+1 by omega,<-BM,List.drop_left];rfl
theorem QZ{L Z:List AV}{x:AV}{n i:Nat}(h:L.length=n)(hi:i<n):bG (L.take (i+1)++(L.drop i++Z)) i [x]=gG i x L++Z:=by
  unfold bG gG
  grind
theorem TD{L:List AV}{z x:AV}{n i:Nat}(h:L.length=n)(hi:i<n):bG (L.take i++List.replicate (n+1-i) z) i [x]=L.take i++(x::List.replicate (n-i) z):=by
  unfold bG
  have h1:(L.take i).length=i:=by grind
  have e:n+1-i=(n-i)+1:=by omega
  rw[List.take_append_of_le_length (by omega),yo (by omega),<-BM]
  simp_all
theorem P9{L:List AV}{z x:AV}{n i:Nat}(h:L.length=n)(hi:i<n):bG (L.take i++(x::List.replicate (n-i) z)) (i+1) (L.drop i)=gG i x L:=by
  unfold bG gG
  have h1:(L.take i).length=i:=by grind
  have h2:(L.take i++(x::List.replicate (n-i) z)).length=n+1:=by grind
  have e:(L.take i++(x::List.replicate (n-i) z)).drop (i+1+(L.drop i).length)=[]:=BH (by grind)
  grind
theorem Qi(L Z:List AV)(x z:AV)(t:Bool)(n k:Nat)(hn:L.length=n)(hs:n<2^20)(hk:Z.length=k)(hx:dG 8 [x]=true):kD 176 [.slice 0 0 0 n (some (n+(k+1))),nV n,.ps [x] t] (av [dM (L++z::Z)]) (.slice 0 0 0 (n+1) (some (n+(k+1)))) (av [dM (gG n x L++Z)]):=by
  have hq:=Y8 n
  let q:=av [aZ 8 false 0 (L++z::Z)];exact dE Tryz.func176 fun a=>Ko 2 (by exact ic (xs:=L++z::Z) (l:=n) (h:=n) (by kernel_rfl) (by rfl) (by rfl) (by omega) (by omega) (by omega) (by omega) (by omega) (by omega):bv q (dV (8) q ((some (AV.slice 0 0 0 n (some (n+(k+1)))))) ((some (nV n))) (none) (none))=some (ARes.val (AV.slice 0 0 n 0 (some (k+1))) q))<|Kt 11 hq<|Ko 1 (by exact L2 (new:=[x]) rfl (by rfl) hx (ja _ _) (by simp_all) (by simp_all) (aM (m:=2^20) (by grind) (by omega) (by omega)) rfl (UH hn):fy (de (8) (120) (av [AObj.row 8 false 0 (L++z::Z)]) ((some (AV.slice 0 0 0 n (some (n+(k+1)))))) ((some (AV.ps [x] t))))=some (ARes.val (AV.slice 0 0 0 (n+1) (some (n+(k+1)))) (av [AObj.row 8 false 0 (gG n x L++Z)])))<|Kf 0 a
theorem Qh(L:List AV)(x:AV)(t:Bool)(n:Nat)(hn:L.length=n)(hs:n<2^20)(hx:dG 8 [x]=true)(hT:aj L=0)(hI:aj (gG n x L)=0):kD 176 [.slice 0 0 0 n (some n),nV n,.ps [x] t] (av [dM L]) (.ls (gG n x L)) (av [dM L]):=by
  have hq:=Y8 n
  have hIl:(gG n x L).length=n+1:=(AY (by omega)).trans (by omega)
  let q:=av [aZ 8 false 0 L];exact dE Tryz.func176 fun a=>Ko 2 (by exact KY (xs:=L) (l:=n) (h:=n) (by kernel_rfl) (by rfl) (by rfl) (by rfl) rfl:bv q (dV (8) q ((some (AV.slice 0 0 0 n (some n)))) ((some (nV n))) (none) (none))=some (ARes.val (AV.slice 0 0 0 0 (some 0)) q))<|Kt 11 hq<|Ko 1 (by exact Vq (new:=[x]) rfl (by rfl) hx (ja _ _) (by simp_all) (aM (m:=2^20) (by grind) (by omega) (by omega)) (by grind[GG]) ((AY (by omega)).trans (by omega)):fy (de (8) (120) (av [AObj.row 8 false 0 L]) ((some (AV.slice 0 0 0 n (some n)))) ((some (AV.ps [x] t))))=some (ARes.val (AV.slice 1 0 0 (n+1) none) (av [AObj.row 8 false 0 L,AObj.row 8 true 0 (gG n x L)])))<|Mg 0<|M2 (.fsl 1 [] 6<|gG n x L) (et (tR 8 false 0 1 (oA:aj (L)=0)) ti) (ch (ax 0) (Vo (oA:(gG n x L).length=n+1)) (oA:aj (gG n x L)=0))<|Ml 6 (fY (gG n x L) false (oA:aj (gG n x L)=0))<|Mf a
theorem Qg(L Z:List AV)(x z:AV)(t:Bool)(n k i:Nat)(hi:i<n)(hn:L.length=n)(hs:n<2^20)(hk:Z.length=k)(hx:dG 8 [x]=true)(hf:dG 8 L=true)(hT:aj (L++z::Z)=0)(hov:kD 245 [.ps [x] t,.slice 0 0 (i+1) (n-i) (some (n+(k+1)-(i+1)))] (av [dM (L++z::Z)]) (.bool false) (av [dM (L++z::Z)])):kD 176 [.slice 0 0 0 n (some (n+(k+1))),nV i,.ps [x] t] (av [dM (L++z::Z)]) (.slice 0 0 0 (n+1) (some (n+(k+1)))) (av [dM (gG i x L++Z)]):=by
  have hq:ae (Int.ofNat i) (Int.ofNat n)=false:=Yr (by omega)
  have hl:aB (Int.ofNat (n+(k+1))) (Int.ofNat (n+1))=false:=aam (by omega)
  let q:=av [aZ 8 false 0 (L++z::Z)];let q1:=av [aZ 8 false 0 (L.take (i+1)++(L.drop i++Z))];let q2:=AHeap.mk 1000000 (bF q ([0]) Tr.nil);let q3:=aD 0 0 0 (n+1) (some (n+(k+1)));let q4:=aD 0 0 i (n+1-i) (some (n+(k+1)-i));let q5:=(some (nV i));let q6:=aD 0 0 (i+1) (n-i) (some (n+(k+1)-(i+1)));let q7:=(some (nV (i+1)));let q8:=(some (aD 0 0 0 n (some (n+(k+1)))));exact dE Tryz.func176 fun a=>Ko 2 (by exact ic (xs:=L++z::Z) (l:=i) (h:=n) (by kernel_rfl) (by rfl) (by rfl) (by omega) (by omega) (by omega) (by omega) (by omega) (by omega):bv q (dV (8) q q8 q5 (none) (none))=some (ARes.val (AV.slice 0 0 i (n-i) (some (n+(k+1)-i))) q))<|Kh 11 hq<|Kl 2 28 (iF n)<|Kh 2 hl<|Kl 3 59 (iF n)<|Mo (by exact ic (xs:=L++z::Z) (l:=0) (h:=n+1) (by kernel_rfl) (by rfl) (by rfl) (by omega) (by omega) (by omega) (by omega) (by omega) (by omega):bv q (dV (8) q q8 (none) ((some (nV (n+1)))) (none))=some (ARes.val q3 q))<|Kl 5 65 (iF i)<|Mo (by exact ic (xs:=L++z::Z) (l:=i+1) (h:=n+1) (by kernel_rfl) (by rfl) (by rfl) (by omega) (by omega) (by omega) (by omega) (by omega) (by omega):bv q (dV (8) q ((some q3)) q7 (none) (none))=some (ARes.val q6 q))<|Me hov<|Mg 4<|Ma (iF i)<|Mv (by exact ic (xs:=L++z::Z) (l:=i+1) (h:=n+1) (by kernel_rfl) (by rfl) (by rfl) (by omega) (by omega) (by omega) (by omega) (by omega) (by omega):bv (q2) (dV (8) (q2) ((some q3)) q7 (none) (none))=some (ARes.val q6 q2))<|Kv 1 (by exact ic (xs:=L++z::Z) (l:=i) (h:=n+1) (by kernel_rfl) (by rfl) (by rfl) (by omega) (by omega) (by omega) (by omega) (by omega) (by omega):bv (q2) (dV (8) (q2) ((some q3)) q5 (none) (none))=some (ARes.val q4 q2))<|Md rt (ip (tR 8 false 0 1 (oA:aj (L++z::Z)=0))<|ip (tR 8 false 0 1 (oA:aj (L++z::Z)=0)) rt) (by exact LH (zs:=((L++z::Z).drop i).take (n+1-i)) rfl (y8 rfl rfl) (by grind[rD]) (by grind) (by grind[TO]):fy (uT (8) ((AHeap.mk 1 (bF (av [AObj.row 8 false 0 (L++z::Z)]) ([0,0]) Tr.nil))) ((some (AV.slice 0 0 (i+1) (n-i) (some (n+(k+1)-(i+1)))))) ((some (AV.slice 0 0 i (n+1-i) (some (n+(k+1)-i))))))=some (ARes.val (nV (n-i)) (AHeap.put (AHeap.mk 1 (bF (av [AObj.row 8 false 0 (L++z::Z)]) ([0,0]) Tr.nil)) 0 (AObj.row 8 false 0 (L.take (i+1)++(L.drop i++Z))))))<|Ko 1 (by exact ic (xs:=L.take (i+1)++(L.drop i++Z)) (l:=i) (h:=n+1) (by kernel_rfl) (by rfl) (by rfl) (by omega) (by omega) (by omega) (by omega) (by omega) (by omega):bv q1 (dV (8) q1 ((some q3)) q5 (none) (none))=some (ARes.val q4 q1))<|Ko 0 (by exact LH (zs:=[x]) rfl (by rfl) (rC hx) (by grind) (by grind[List.take_of_length_le,QZ]):fy (uT (8) q1 ((some q4)) ((some (AV.ps [x] t))))=some (ARes.val (iV 1) (av [AObj.row 8 false 0 (gG i x L++Z)])))<|Kf 1 a
theorem Qf(L:List AV)(x:AV)(t:Bool)(n i:Nat)(hi:i<n)(hn:L.length=n)(hs:n<2^20)(hx:dG 8 [x]=true)(hf:dG 8 L=true)(hT:aj L=0)(hT2:aj (L.take i++(x::List.replicate (n-i) zU))=0)(hI:aj (gG i x L)=0):kD 176 [.slice 0 0 0 n (some n),nV i,.ps [x] t] (av [dM L]) (.ls (gG i x L)) (av [dM L]):=by
  have hq:ae (Int.ofNat i) (Int.ofNat n)=false:=Yr (by omega)
  have hl:aB (Int.ofNat n) (Int.ofNat (n+1))=true:=aal (by omega)
  have hIl:(gG i x L).length=n+1:=(AY (by omega)).trans (by omega)
  let q:=av [aZ 8 false 0 L,aZ 8 true 0 (L.take i++x::List.replicate (n-i) zU)];let q1:=av [aZ 8 false 0 L,aZ 8 true 0 (L.take i++List.replicate (n+1-i) zU)];let q2:=av [aZ 8 false 0 L];let q3:=(some (nV i));let q4:=AHeap.mk 1000000 (bF q ([0]) Tr.nil);let q5:=aD 0 0 i (n-i) (some (n-i));let q6:=(some (aD 0 0 0 n (some n)));let q7:=AHeap.mk 2 (bF q ([1,0]) Tr.nil);let q8:=aD 1 0 i (n+1-i) none;let q9:=aD 1 0 0 (n+1) none;let q10:=aD 0 0 0 i (some n);exact dE Tryz.func176 fun a=>Ko 2 (by exact ic (xs:=L) (l:=i) (h:=n) (by kernel_rfl) (by rfl) (by rfl) (by omega) (by omega) (by omega) (by omega) (by omega) (by omega):bv q2 (dV (8) q2 q6 q3 (none) (none))=some (ARes.val q5 q2))<|Kh 11 hq<|Kl 2 28 (iF n)<|Kt 2 hl<|Ko 1 (by exact ic (xs:=L) (l:=0) (h:=i) (by kernel_rfl) (by rfl) (by rfl) (by omega) (by omega) (by omega) (by omega) (by omega) (by omega):bv q2 (dV (8) q2 q6 (none) q3 (none))=some (ARes.val q10 q2))<|Kl 2 37 (iF n)<|Ko 0 (by(show bv _ (some (AV.int .i64 (IntKind.i64.wrap (Int.ofNat (n+1)-Int.ofNat i))))=_;rw[show(Int.ofNat (n+1)-Int.ofNat i)=Int.ofNat (n+1-i) by grind,tu (by simp_all) (by grind)];rfl):bv (av [AObj.row 8 false 0 L]) (SS (pO BinOp.sub (Tryz.prog.underlying 3) (cD Tryz.prog 3) (cH Tryz.prog 3) (dN Tryz.prog 10 3 0)) ((some (nV (n+1)))) ((some (nV i))))=some (ARes.val (nV (n+1-i)) (av [AObj.row 8 false 0 L])))<|Mo (by exact TM rfl (by omega) (by omega) (by kernel_rfl) (aM (m:=2^21) (by omega) (by omega) (by omega)) (aM (m:=2^21) (by omega) (by omega) (by omega)) (by simp_all) (by grind):fy (CD (8) (120) (AV.agg [iV 0,iV 0,iV 0,iV 0,AV.str [],AV.nils,AV.nils,AV.nils]) q2 ((some q10)) ((some (nV (n+1-i)))))=some (ARes.val q9 q1))<|Ko 2 (by exact yJ (xs:=L.take i++List.replicate (n+1-i) zU) (l:=i) (h:=n+1) (by kernel_rfl) (by rfl) (by rfl) (by omega) (by grind) (by omega) (by omega):bv q1 (dV (8) q1 ((some q9)) q3 (none) (none))=some (ARes.val q8 q1))<|Ko 0 (by exact LH (zs:=[x]) rfl (by rfl) (rC hx) (by grind) (by grind[List.take_of_length_le,TD]):fy (uT (8) q1 ((some q8)) ((some (AV.ps [x] t))))=some (ARes.val (iV 1) q))<|Mg 2<|Ma (iF i)<|Mv (by exact yJ (xs:=L.take i++(x::List.replicate (n-i) zU)) (l:=i+1) (h:=n+1) (by kernel_rfl) (by rfl) (by rfl) (by omega) (by grind) (by omega) (by omega):bv ((AHeap.mk 1000000 (bF (av [AObj.row 8 false 0 L,AObj.row 8 true 0 (L.take i++x::List.replicate (n-i) zU)]) ([1]) Tr.nil))) (dV (8) ((AHeap.mk 1000000 (bF (av [AObj.row 8 false 0 L,AObj.row 8 true 0 (L.take i++x::List.replicate (n-i) zU)]) ([1]) Tr.nil))) ((some (AV.slice 1 0 0 (n+1) none))) ((some (nV (i+1)))) (none) (none))=some (ARes.val (AV.slice 1 0 (i+1) (n-i) none) (AHeap.mk 1000000 (bF (av [AObj.row 8 false 0 L,AObj.row 8 true 0 (L.take i++x::List.replicate (n-i) zU)]) ([1]) Tr.nil))))<|Kv 1 (by exact ic (xs:=L) (l:=i) (h:=n) (by kernel_rfl) (by rfl) (by rfl) (by omega) (by omega) (by omega) (by omega) (by omega) (by omega):bv (q4) (dV (8) (q4) q6 q3 (none) (none))=some (ARes.val q5 q4))<|Md rt (ip (tR 8 true 0 2 (oA:aj (L.take i++x::List.replicate (n-i) zU)=0))<|ip (tR 8 false 0 2 (oA:aj (L)=0)) rt) (by exact LH (zs:=L.drop i) rfl (y8 rfl (yo (by simp_all))) (rC (rD hf)) (by simp_all) (by grind[List.length_drop,P9]):fy (uT (8) (q7) ((some (AV.slice 1 0 (i+1) (n-i) none))) ((some q5)))=some (ARes.val (nV (n-i)) (AHeap.put q7 1 (AObj.row 8 true 0 (gG i x L)))))<|Mg 1<|M2 (.fsl 1 [] 6<|gG i x L) (et (tR 8 false 0 1 (oA:aj (L)=0)) ti) (ch (ax 0) (Vo (oA:(gG i x L).length=n+1)) (oA:aj (gG i x L)=0))<|Ml 6 (fY (gG i x L) false (oA:aj (gG i x L)=0))<|Mf a
theorem GE(x:TUnit)(t:Bool):kP 176 [.nils,iV 0,.ps [eU x] t] (.ls [eU x]):=by
  have hx:dG 8 [eU x]=true:=by kernel_rfl
  have hIl:[eU x].length=1:=rfl
  have hI:aj [eU x]=0:=by kernel_rfl
  let q:=[az [iV x.act,iV x.item,iV x.n,iV x.kind,aV x.label,aW (x.head.map aQ),aW (x.words.map aQ),aW (x.kids.map aq)]];exact bo Tryz.func176<|Ko 18 (by(simp only[de,gp,kG,ki,iJ,hx];rfl):fy (de (8) (120) (av []) ((some (AV.nils))) ((some (AV.ps [AV.agg [iV x.act,iV x.item,iV x.n,iV x.kind,AV.str x.label,AV.ls (x.head.map aQ),AV.ls (x.words.map aQ),AV.ls (x.kids.map aq)]] t))))=some (ARes.val (AV.slice 0 0 0 1 none) (av [AObj.row 8 true 0 [eU x]])))<|K1 0 (.frz 0 [6]) ti<|Mf (fY q _<|by rfl:Le _ (AV.ps q false))
theorem GD(x:TUnit)(t:Bool):kP 176 [.ps [] true,iV 0,.ps [eU x] t] (.ls [eU x]):=by
  have hx:dG 8 [eU x]=true:=by kernel_rfl
  have hIl:[eU x].length=1:=rfl
  have hI:aj [eU x]=0:=by kernel_rfl
  let q:=[az [iV x.act,iV x.item,iV x.n,iV x.kind,aV x.label,aW (x.head.map aQ),aW (x.words.map aQ),aW (x.kids.map aq)]];exact bo Tryz.func176<|Ko 18 (by(simp only[de,gp,kG,ki,iJ,hx];rfl):fy (de (8) (120) (av []) ((some (AV.ps [] true))) ((some (AV.ps [AV.agg [iV x.act,iV x.item,iV x.n,iV x.kind,AV.str x.label,AV.ls (x.head.map aQ),AV.ls (x.words.map aQ),AV.ls (x.kids.map aq)]] t))))=some (ARes.val (AV.slice 0 0 0 1 none) (av [AObj.row 8 true 0 [eU x]])))<|K1 0 (.frz 0 [6]) ti<|Mf (fY q _<|by rfl:Le _ (AV.ps q false))
noncomputable def J9:TypeInfo:=(Tryz.prog.info? 30).getD default
theorem OM:Tryz.prog.info? 30=some J9:=by kernel_rfl
theorem X8:Le (aq bd) zU:=aO (.cons (Le.refl _) (.cons (Le.refl _) (.cons (Le.refl _) (.cons (Le.refl _) (.cons (Le.refl _) (.cons Le.nils (.cons Le.nils (.cons Le.nils .nil)))))))) rfl
theorem Ie:J9.size=8:=by kernel_rfl
theorem Fb:J9.bytes=120:=by kernel_rfl
theorem Y2(l:List TUnit):dG 8 (l.map aq)=true:=gH (fun u=>by cases u;rfl) l
theorem EA(xs:List TUnit)(hne:xs≠[])(hl:xs.length<=2^20)(a b c:AObj):kC 244 [.ls (xs.map aq)] (av [a,b,c])
    (fun v h=>∃k:Nat,True/\v=.slice 3 0 0 xs.length (some (xs.length+k))/\h=av [a,b,c,dM ((xs++List.replicate k bd).map aq)]):=by
  simp only[qQ,List.map_replicate]
  have hn:xs.map aq≠[]:=fun h=>hne (List.map_eq_nil_iff.1 h)
  have hf:=Y2 xs
  have hsm:small (xs.map aq).length 120=true:=by grind[aM]
  have hlen:xs.length=(xs.map aq).length:=(cQ ..).symm
  rw[hlen]
  generalize xs.map aq=L at hn hf hsm
  refine aH.enter 2 (fn:=Tryz.f244) Tryz.func244 (by kernel_rfl) rfl ⟨by kernel_rfl,by kernel_rfl⟩ ?_
  refine an.seq (an.mono (Ek pE iO (ev 40) (s':=⟨eX 8 [(0,.ls L),(2,.nils)],av [a,b,c]⟩) (.go 0 .fin) (by kernel_rfl)) ?_)
  rintro _ _ ⟨rfl,rfl⟩
  refine an.seq (an.seq (an.mono (yU iO (ev 40) (Ψ:=fun s=>s=⟨eX 8 [(0,.ls L),(2,.nils),(3,.ps L false),(4,.bool false)],av [a,b,c]⟩) (.go 0 (.nz 3 .abs (.go 0 .fin)))
    (W:=(L=[]->False)/\(⟨eX 8 [(0,.ls L),(2,.nils),(3,.ps L false),(4,.bool false)],av [a,b,c]⟩:St)=⟨eX 8 [(0,.ls L),(2,.nils),(3,.ps L false),(4,.bool false)],av [a,b,c]⟩) ⟨hn,rfl⟩ (by kernel_rfl)) ?_))
  rintro _ _ ⟨rfl,rfl⟩
  refine an.cond (t:=false) (by kernel_rfl) (fun h=>by grind) fun _=>an.skip ?_
  refine an.seq (an.region ?_)
  show cY _ _ _ _ [_,_,_,_] _ _
  refine cY.one (s':=⟨eX 8 [(0,.ls L),(2,.nils),(3,.ps L false),(4,.bool false),(5,.ps [] true)],av [a,b,c]⟩) (ev 40) (by kernel_rfl) ?_
  refine cY.one (s':=⟨eX 8 [(0,.ls L),(2,.nils),(3,.ps L false),(4,.bool false),(5,.ps [] true),(6,.ls L)],av [a,b,c]⟩) (ev 40) (by kernel_rfl) ?_
  refine rT (I:=fun _=>True) (r:=fun k:Nat=>.slice 3 0 0 L.length (some (L.length+k))) (H:=fun k=>av [a,b,c,.row 8 false 0 (L++List.replicate k (aq bd))]) (by kernel_rfl)
    (fun pl M a w g1 g2 g3=>vY (z:=aq bd) (z0:=zU) (xs:=L) (t:=28) (tx:=28) (e:=30) (i:=J9) Ie Fb (by kernel_rfl) ⟨30,by kernel_rfl⟩ OM (by kernel_rfl) X8 (by kernel_rfl) (by kernel_rfl) hn hf (by kernel_rfl) hsm (by omega) pl M a w g1 g2 g3) fun k _=>?_
  refine⟨eX 8 [(0,.ls L),(2,.nils),(3,.ps L false),(4,.bool false),(5,.ps [] true),(6,.ls L),(7,.slice 3 0 0 L.length (some (L.length+k)))],by kernel_rfl,?_⟩
  refine cY.one (s':=⟨eX 8 [(0,.ls L),(2,.slice 3 0 0 L.length (some (L.length+k))),(3,.ps L false),(4,.bool false),(5,.ps [] true),(6,.ls L),(7,.slice 3 0 0 L.length (some (L.length+k)))],av [a,b,c,.row 8 false 0 (L++List.replicate k (aq bd))]⟩) (ev 40) (by kernel_rfl) (cY.nil (an.ret ⟨fun id h=>(by grind),.slice 3 0 0 L.length (some (L.length+k)),by kernel_rfl,k,trivial,by kernel_rfl,by kernel_rfl⟩))
noncomputable abbrev dL(u:TUnit)(K:AV):AObj:=.row 8 false 0 [.agg [iV u.act,iV u.item,iV u.n,iV u.kind,.str u.label,.ls (u.head.map aQ),.ls (u.words.map aQ),K]]
theorem YZ(u:TUnit)(n c i:Nat)(R R':List AV)(hT:aj R=0)(hT2:aj R'=0)(hi:i<n)(hs:n<=2^20)(hD:kD 248 [.slice 1 0 0 n (some c),nV i,nV (i+1)] (av [dL u (.slice 1 0 0 n (some c)),dM R]) (.slice 1 0 0 (n-1) (some c)) (av [dL u (.slice 1 0 0 n (some c)),dM R'])):
    kD 247 [.ptr 0 0 0 0,.pptr [nV i] 0 0] (av [dL u (.slice 1 0 0 n (some c)),dM R]) (.tuple []) (av [dL u (.slice 1 0 0 (n-1) (some c)),dM R']):=by
  exact dE Tryz.func247 fun a=>Mg 6<|Ma (iF i)<|M3 (.efx false (aD 1 0 0 (n-1)<|some c)<|av [aZ 8 false 0 [az [iV u.act,iV u.item,iV u.n,iV u.kind,aV u.label,aW<|u.head.map aQ,aW<|u.words.map aQ,aD 1 0 0 n<|some c]],aZ 8 false 0 R']) (ch (tR 8 false 0 2 (oA:aj (R)=0)) rt ti) ti hD<|Kf 2 a
theorem W6(u x:TUnit)(n c i:Nat)(R R':List AV)(hT:aj R=0)(hT2:aj R'=0)(hD:kD 176 [.slice 1 0 0 n (some c),nV i,.ps [eU x] true] (av [dL u (.slice 1 0 0 n (some c)),dM R]) (.slice 1 0 0 (n+1) (some c)) (av [dL u (.slice 1 0 0 n (some c)),dM R'])):
    kD 175 [.ptr 0 0 0 0,.pptr [nV i] 0 0,.pptr [eU x] 0 0] (av [dL u (.slice 1 0 0 n (some c)),dM R]) (.tuple []) (av [dL u (.slice 1 0 0 (n+1) (some c)),dM R']):=by
  exact dE Tryz.func175 fun a=>Mg 7<|M3 (.efx false (aD 1 0 0 (n+1)<|some c)<|av [aZ 8 false 0 [az [iV u.act,iV u.item,iV u.n,iV u.kind,aV u.label,aW<|u.head.map aQ,aW<|u.words.map aQ,aD 1 0 0 n<|some c]],aZ 8 false 0 R']) (ch (tR 8 false 0 2 (oA:aj (R)=0)) rt ti) ti hD<|Kf 2 a
theorem W5(u x:TUnit)(n c i:Nat)(R Y:List AV)(hT:aj R=0)(hD:kD 176 [.slice 1 0 0 n (some c),nV i,.ps [eU x] true] (av [dL u (.slice 1 0 0 n (some c)),dM R]) (.ls Y) (av [dL u (.slice 1 0 0 n (some c)),dM R])):
    kD 175 [.ptr 0 0 0 0,.pptr [nV i] 0 0,.pptr [eU x] 0 0] (av [dL u (.slice 1 0 0 n (some c)),dM R]) (.tuple []) (av [dL u (.ls Y),dM R]):=by
  let q:=[az [iV u.act,iV u.item,iV u.n,iV u.kind,aV u.label,aW (u.head.map aQ),aW (u.words.map aQ),aD 1 0 0 n (some c)]];exact dE Tryz.func175 fun a=>Mg 7<|M3 (.efx true (aW Y)<|av [aZ 8 false 0 q,aZ 8 false 0 R]) (ch (tR 8 false 0 2 (oA:aj (R)=0)) rt ti) (ch (ax<|some<|aZ 8 false 0 R) (ax<|some<|aZ 8 false 0 q) ti) hD<|Kf 2 a
theorem W0(u x:TUnit)(Y:List AV)(hD:kP 176 [.nils,iV 0,.ps [eU x] true] (.ls Y)):
    kD 175 [.ptr 0 0 0 0,.pptr [iV 0] 0 0,.pptr [eU x] 0 0] (av [dL u .nils]) (.tuple []) (av [dL u (.ls Y)]):=by
  exact dE Tryz.func175 fun a=>Kp 7 hD<|Kf 2 a
theorem WT(u x:TUnit)(Y:List AV)(hD:kP 176 [(.ps [] true),iV 0,.ps [eU x] true] (.ls Y)):
    kD 175 [.ptr 0 0 0 0,.pptr [iV 0] 0 0,.pptr [eU x] 0 0] (av [dL u (.ps [] true)]) (.tuple []) (av [dL u (.ls Y)]):=by
  exact dE Tryz.func175 fun a=>Kp 7 hD<|Kf 2 a
theorem Wu(u x:TUnit)(n c i:Nat)(R R':List AV)(hT:aj R=0)(hT2:aj R'=0)(hD:kD 176 [.slice 1 0 0 n (some c),nV i,.ps [eU x] true] (av [dL u (.slice 1 0 0 n (some c)),dM R]) (.slice 1 0 0 (n+1) (some c)) (av [dL u (.slice 1 0 0 n (some c)),dM R'])):
    kD 186 [.ptr 0 0 0 0,.pptr [nV i] 0 0,.pptr [eU x] 0 0] (av [dL u (.slice 1 0 0 n (some c)),dM R]) (.tuple []) (av [dL u (.slice 1 0 0 (n+1) (some c)),dM R']):=by
  exact dE Tryz.func186 fun a=>Mg 7<|M3 (.efx false (aD 1 0 0 (n+1)<|some c)<|av [aZ 8 false 0 [az [iV u.act,iV u.item,iV u.n,iV u.kind,aV u.label,aW<|u.head.map aQ,aW<|u.words.map aQ,aD 1 0 0 n<|some c]],aZ 8 false 0 R']) (ch (tR 8 false 0 2 (oA:aj (R)=0)) rt ti) ti hD<|Kf 2 a
theorem Ws(u x:TUnit)(n c i:Nat)(R Y:List AV)(hT:aj R=0)(hD:kD 176 [.slice 1 0 0 n (some c),nV i,.ps [eU x] true] (av [dL u (.slice 1 0 0 n (some c)),dM R]) (.ls Y) (av [dL u (.slice 1 0 0 n (some c)),dM R])):
    kD 186 [.ptr 0 0 0 0,.pptr [nV i] 0 0,.pptr [eU x] 0 0] (av [dL u (.slice 1 0 0 n (some c)),dM R]) (.tuple []) (av [dL u (.ls Y),dM R]):=by
  let q:=[az [iV u.act,iV u.item,iV u.n,iV u.kind,aV u.label,aW (u.head.map aQ),aW (u.words.map aQ),aD 1 0 0 n (some c)]];exact dE Tryz.func186 fun a=>Mg 7<|M3 (.efx true (aW Y)<|av [aZ 8 false 0 q,aZ 8 false 0 R]) (ch (tR 8 false 0 2 (oA:aj (R)=0)) rt ti) (ch (ax<|some<|aZ 8 false 0 R) (ax<|some<|aZ 8 false 0 q) ti) hD<|Kf 2 a
theorem Wr(u x:TUnit)(Y:List AV)(hD:kP 176 [.nils,iV 0,.ps [eU x] true] (.ls Y)):
    kD 186 [.ptr 0 0 0 0,.pptr [iV 0] 0 0,.pptr [eU x] 0 0] (av [dL u .nils]) (.tuple []) (av [dL u (.ls Y)]):=by
  exact dE Tryz.func186 fun a=>Kp 7 hD<|Kf 2 a
theorem Wp(u x:TUnit)(Y:List AV)(hD:kP 176 [(.ps [] true),iV 0,.ps [eU x] true] (.ls Y)):
    kD 186 [.ptr 0 0 0 0,.pptr [iV 0] 0 0,.pptr [eU x] 0 0] (av [dL u (.ps [] true)]) (.tuple []) (av [dL u (.ls Y)]):=by
  exact dE Tryz.func186 fun a=>Kp 7 hD<|Kf 2 a
theorem X9(u:TUnit)(l:List PWord):kD 179 [.ptr 0 0 0 0,.pptr [.ls (l.map aQ)] 0 0] (av [dL u (.ls (u.kids.map aq))]) (.tuple []) (av [dL (md l u) (.ls (u.kids.map aq))]):=by
  exact dE Tryz.func179 fun a=>Kf 4 a
theorem Ya(u:TUnit)(l:List PWord):kD 181 [.ptr 0 0 0 0,.pptr [.ls (l.map aQ)] 0 0] (av [dL u (.ls (u.kids.map aq))]) (.tuple []) (av [dL (md l u) (.ls (u.kids.map aq))]):=by
  exact dE Tryz.func181 fun a=>Kf 4 a
theorem YS(u:TUnit)(l:List PWord):kD 183 [.ptr 0 0 0 0,.pptr [.ls (l.map aQ)] 0 0] (av [dL u (.ls (u.kids.map aq))]) (.tuple []) (av [dL (Az l u) (.ls (u.kids.map aq))]):=by
  exact dE Tryz.func183 fun a=>Kf 4 a
theorem Yv(u:TUnit)(d:PDeed):kD 185 [.ptr 0 0 0 0,.pptr [aK d] 0 0] (av [dL u (.ls (u.kids.map aq))]) (.tuple []) (av [dL (pv d.it.label u) (.ls (u.kids.map aq))]):=by
  exact dE Tryz.func185 fun a=>Kf 6 a
noncomputable abbrev vF(p:PId):AObj:=.row 3 false 0 [aJ p]
noncomputable abbrev zO:AObj:=.row 8 false 0 [zU]
theorem HE:kP 244 [.nils] .nils:=by
  exact wk Tryz.func244 (.go 4 .fin)<|bY ak
theorem HD:kP 244 [.ps [] false] (.ps [] true):=by
  exact wk Tryz.func244 (.go 7 .fin)<|bY<|lp [] true
theorem RO(w:TUnit)(r:List TUnit)(hl:r.length<2^20):kP 244 [.ls ((w::r).map aq)] (.ls ((w::r).map aq)):=by
  let q:=List.map aq (w::r);exact bo Tryz.func244<|Mg 1<|Mz 3 (fun(a:((w::r).map aq:List AV)=[])=>Mw .abs<|ja _ _ a)<|Mg 3<|M2 .apl (et (sA:List.map aq (w::r)≠[])<|gH (sz:=8) (f:=aq) (fun _=>by(rw[aR];rfl))<|w::r) (by(refine aM (m:=2^21) ?_ ?_ ?_<;>first|omega|grind):small ((w::r).map aq).length 120=true)<|Mg 0<|M2 (.fsl 0 [] 2 q) ti (ch (ax 0) (tA aq (w::r) q.length (sA:(w::r).length=((w::r).map aq).length))<|aX iU<|w::r)<|Ml 2 (fY q false<|aX iU<|w::r)<|Mf<|bY<|aW q
theorem DU(l:List TUnit)(hl:l.length<=2^20):kP 244 [.ls (l.map aq)] (.ls (l.map aq)):=by
  cases l with
  |nil=>exact bX.ls0 (HE.less Le.nils) (HD.lessB (u:=.ls []) (by kernel_rfl))
  |cons w r=>grind[RO]
theorem ya(g:Nat)(bs:List AV)(p:PId)(u u2:TUnit)(hA:aj [eU u,aJ p,.func (.func g) [] bs]=0)(hp:(ae u.act p.a&&(ae u.item p.i&&ae u.n p.n))=true)(hl:u.kids.length<=2^20)(hd:kD g (.ptr 0 0 0 0::bs) (av [dL u (.ls (u.kids.map aq)),vF p,zO]) (.tuple []) (av [dL u2 (.ls (u2.kids.map aq)),vF p,zO])):kP 174 [eU u,aJ p,.func (.func g) [] bs] (eU u2):=by
  have hc:=DU u.kids hl
  let q:=[iV p.a,iV p.i,iV p.n];exact bo (ht:=oA) Tryz.func174<|Kv 5 (kH ((Tryz.prog).underlying 26) u.act u.item u.n p.a p.i p.n<|av [aZ 8 false 0 [az [iV u.act,iV u.item,iV u.n,iV u.kind,aV u.label,aW<|u.head.map aQ,aW<|u.words.map aQ,aW<|u.kids.map aq]],aZ 3 false 0 [az q],aZ 8 false 0 [az [iV 0,iV 0,iV 0,iV 0,aV [],ak,ak,ak]]])<|Mt hp<|Kp 1 hc<|Ke 2 hd<|Kf 1<|bY<|az [iV u2.act,iV u2.item,iV u2.n,iV u2.kind,aV u2.label,aW<|u2.head.map aQ,aW<|u2.words.map aQ,aW<|u2.kids.map aq]
theorem Ue(g:Nat)(bs:List AV)(p:PId)(u u2:TUnit)(n2:Nat)(Z:Nat->List AV)(hA:aj [eU u,aJ p,.func (.func g) [] bs]=0)(hp:(ae u.act p.a&&(ae u.item p.i&&ae u.n p.n))=true)(hl:u.kids.length<=2^20)(hne:u.kids≠[])(hn2:u2.kids.length=n2)(hd:∀k,kD g (.ptr 0 0 0 0::bs) (av [dL u (.slice 3 0 0 u.kids.length (some (u.kids.length+k))),vF p,zO,dM ((u.kids++List.replicate k bd).map aq)]) (.tuple []) (av [dL u2 (.slice 3 0 0 n2 (some (u.kids.length+k))),vF p,zO,dM (u2.kids.map aq++Z k)])):kP 174 [eU u,aJ p,.func (.func g) [] bs] (eU u2):=by
  let q:=[az [iV u.act,iV u.item,iV u.n,iV u.kind,aV u.label,aW (u.head.map aQ),aW (u.words.map aQ),aW (u.kids.map aq)]];let q1:=[iV p.a,iV p.i,iV p.n];let q2:=[az [iV 0,iV 0,iV 0,iV 0,aV [],ak,ak,ak]];let q3:=List.map aq u2.kids;exact bo (ht:=oA) Tryz.func174<|Kv 5 (kH ((Tryz.prog).underlying 26) u.act u.item u.n p.a p.i p.n<|av [aZ 8 false 0 q,aZ 3 false 0 [az q1],aZ 8 false 0 q2])<|Mt hp<|Mg 1<|Mq (EA u.kids hne hl (aZ 8 false 0 q) (aZ 3 false 0 [az q1])<|aZ 8 false 0 q2) fun a _=>Ke 2 (hd a)<|M2 (.fza 0 7 3 [3,6] q3) (kF rt rt rt ti) (ch (ax 0) (Fg (xs:=List.map aq u2.kids) (ys:=Z a) (n:=n2) sA)<|aX iU u2.kids)<|Kf 1<|bY<|az [iV u2.act,iV u2.item,iV u2.n,iV u2.kind,aV u2.label,aW<|u2.head.map aQ,aW<|u2.words.map aQ,aW q3]
end Go.Proofs.YtdhkhecalpkngaaGreatDoor
