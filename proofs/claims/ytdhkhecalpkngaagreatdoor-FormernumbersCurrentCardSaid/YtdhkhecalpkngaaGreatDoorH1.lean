/- Functions walked: what each of them answers, for For each unit of the book of a day, Addresses contains its current address and Holders of that address contains the unit: part 1. Conditions: those that each theorem names. -/
import Derived.Test.YtdhkhecalpkngaaGreatDoorCmb
import Derived.Test.YtdhkhecalpkngaaGreatDoorLay
import Derived.Test.YtdhkhecalpkngaaGreatDoorLay2
namespace Go.Proofs.YtdhkhecalpkngaaGreatDoor
open Go Go.Ev
noncomputable abbrev cC:=@Le.bool
noncomputable abbrev aJ:=@AV.ls
noncomputable abbrev ak:=@AV.agg
noncomputable abbrev ax:=@AV.str
noncomputable abbrev bx:=@AV.func
noncomputable abbrev bz:=@Fn.func
noncomputable abbrev fc:=@Le.ps
noncomputable abbrev lY:=@AV.ps
noncomputable abbrev bo:=@Le.refl
noncomputable abbrev dU:=@AV.bool
noncomputable abbrev cb:=@Le.tuple
noncomputable abbrev bP:=@AV.tuple
noncomputable abbrev ab:=@AV.nils
noncomputable abbrev aZ:=@AObj.row
noncomputable abbrev fe:=@TL
noncomputable abbrev ah:=@AV.ptr
noncomputable abbrev bQ:=@AV.slice
noncomputable abbrev bO:=@Le.nils
noncomputable abbrev abC:=@ARes.val
noncomputable def rX(x:PWord):Bool:=aj (aL 100 (.ofNat x.text.length))
noncomputable def nc(ws:List PWord):Bool:=ws.all rX&&aj (aL 300 (.ofNat ws.length))
theorem Hh(x:Int):kP 155 [iV x] (.bool false):=by
  have rr0 b' (h:(false)=b':=by simp[bc]):=h;exact wk Tryz.func155 (.go 4 .fin)<|cC<|rr0<|aj<|aa x x
theorem qV(x y:Int):kP 120 [iV x,iV y] (iV (ke x y)):=by
  have rr0 b' (h:(ke x y)=b':=by simp[ke, *]):=h;exact b6 Tryz.func120<|Kp 1 (Hh x)<|Kp 1 (Hh y)<|Kb 7 (aL x y) (fun _=>Kf 0<|li<|rr0 (-1)) fun _=>Kb 2 (aL y x) (fun _=>Kf 0<|li<|rr0 1) fun _=>Kf 0<|li<|rr0 0
theorem Gs(ws:List PWord)(hl:ws.length<2^60):kP 220 [.ls (ws.map aQ)] (.bool (nc ws)):=by
  have rr0 b' (h:(nc ws)=b':=by simp only[nc,rX,aS,aj,bS, *]):=h;exact b6 Tryz.func220<|Mg 1<|wS aQ ws [0,3] (fun a _=>([aJ<|ws.map aQ,nV a],[])) (fun a=>ws.all rX=a.all rX) (by rfl) (fun _ _ _ _ _ a _=>Kl 2 6 (ln aQ ws)<|Kh 0 a<|Kl 1 18 (ln aQ ws)<|Kf 1<|cC<|rr0<|aj<|aL 300<|Int.ofNat ws.length) fun a _ _ _ b c d _ e _ f _=>Kl 2 6 (ln aQ ws)<|Kt 0 e<|Kx 1 f<|Ka 3 100 (Int.ofNat<|List.length b.text) (fun _ _=>Ky 0<|rr0 false) fun _ _=>Kl 1 9 (dq a)<|Kf 0<|d<|by simp_all[rX]
mutual
noncomputable def ly:TUnit->Bool
  |⟨_,_,_,_,label,h,w,kids⟩=>aj (aL 30 (.ofNat label.length))&&nc h&&nc w&&zw kids
noncomputable def zw:List TUnit->Bool
  |[]=>true
  |u::r=>ly u&&zw r
end
theorem CA:∀(l:List TUnit),zw l=l.all ly
  |[]=>by rw[zw];rfl
  |u::r=>by rw[zw,CA r];rfl
theorem CB(u:TUnit):ly u=(aj (aL 30 (.ofNat u.label.length))&&nc u.head&&nc u.words&&u.kids.all ly):=by
  obtain⟨a,b,c,d,e,f,g,h⟩:=u
  rw[ly,CA];rfl
theorem Pr:∀(u:TUnit),uW u->kP 148 [eU u] (.bool (ly u)):=by
  refine TUnit.ind fun u ih hf=>?_
  obtain⟨f1,f2,f3,f4⟩:=ru.1 hf
  have rr0 b' (h:(ly u)=b':=by rw[CB];simp only[aS,aj,bS, *]):=h;exact b6 Tryz.func148<|Ka 6 30 (Int.ofNat<|List.length u.label) (fun a _=>Mt a<|Mt a<|Mt a<|MV a<|Ky 3<|rr0 false) fun a _=>Kh 0 a<|Kh 0 a<|Mp (Gs u.head f1)<|Mh a<|Kw 0 a<|Kn 0 (nc u.head) (fun a=>Mt (dY a)<|Mt (dY a)<|Mt (dY a)<|MV (dY a)<|Ky 1<|rr0 false) fun a=>Kh 0 (c9 a)<|Kh 0 (c9 a)<|Mp (Gs u.words f2)<|Mh (c9 a)<|Kw 0 (c9 a)<|Mn (nc u.words) (fun _=>Ky 0<|rr0 false) fun _=>K1 0 (.frz 0 [1,3]) ti<|wS aY u.kids [1,3] (fun a _=>([AV.pptr [ak (uLx u)] 0 0,nV a],[])) (fun a=>u.kids.all ly=a.all ly) (by rfl) (fun _ _ _ _ _ a _=>Kl 3 23 (ln aY u.kids)<|Kh 0 a<|Ky 0<|rr0 true) fun a _ b _ c d e f g _ i _=>have i:=i.trans<|congrArg some<|aR c;Kl 3 23 (ln aY u.kids)<|Kt 0 g<|Kx 2 i<|Kp 0 (ih c (by exact aA b f)<|by exact f4 _ (aA b f))<|Kn 0 (ly c) (fun _=>Kf 0<|cC<|rr0 false) fun _=>Kl 1 26 (dq a)<|Kf 0<|e sA
mutual
noncomputable def na:TUnit->Int->Int->Int
  |⟨_,_,_,_,_,_,_,kids⟩,deep,most=>match aL 20 deep with|true=>most+1|false=>nb kids deep most 1
noncomputable def nb:List TUnit->Int->Int->Int->Int
  |[],_,_,n=>n
  |k::r,deep,most,n=>match aL most n with|true=>n|false=>nb r deep most (n+na k (deep+1) (most-n))
end
theorem QU(u:TUnit)(deep most:Int):na u deep most=match aL 20 deep with|true=>most+1|false=>nb u.kids deep most 1:=by
  obtain⟨a,b,c,d,e,f,g,h⟩:=u;rw[na];rfl
mutual
theorem Gp:∀(u:TUnit)(deep most:Int),0<=most->1<=na u deep most/\na u deep most<=most+1
  | ⟨_,_,_,_,_,_,_,kids⟩,deep,most,h=>by
    rw[na]
    split
    · omega
    · exact Gr kids deep most 1 (by omega) (by omega)
theorem Gr:∀(l:List TUnit)(deep most n:Int),1<=n->n<=most+1->1<=nb l deep most n/\nb l deep most n<=most+1
  |[],_,_,n,h1,h2=>by grind[nb]
  | k::r,deep,most,n,h1,h2=>by
    rw[nb]
    split
    · omega
    · rename_i h
      have:=aG h
      have:=Gp k (deep+1) (most-n) (by omega)
      exact Gr r deep most _ (by omega) (by omega)
end
theorem Uj:∀(u:TUnit),uW u->∀(deep most:Int),0<=deep->deep<=21->0<=most->most<=2^20->kP 147 [eU u,iV deep,iV most] (iV (na u deep most)):=by
  refine TUnit.ind fun u ih hf deep most d1 d2 m1 m2=>?_
  obtain⟨f1,f2,f3,f4⟩:=ru.1 hf
  have rr0 b' (h:(na u deep most)=b':=by rw[QU];simp only[nb,aS,aj,bS, *]):=h;exact b6 Tryz.func147<|Ka 3 20 deep (fun _ _=>Kl 1 12 (Le.wr (x:=most+1) fH)<|Kf 0<|li<|rr0<|most+1) fun _ _=>K1 1 (.frz 0 [1,2,3,7,8]) ti<|JY aY u.kids (1:Int) [1,2,3,7,8] (fun a _ b=>([iV deep,iV most,AV.pptr [ak (uLx u)] 0 0,iV b,nV a],[])) (fun a b=>(1:Int)<=b/\b<=most+(1:Int)/\nb u.kids deep most (1:Int)=nb a deep most b) oA (fun _ _ a _ _ _ b _=>Kl 3 16 (ln aY u.kids)<|Kh 1 b<|Mh b<|Mh b<|My b<|Kf 2<|li<|rr0 a) fun a _ b c _ d e f g i _ j _=>have j:=j.trans<|congrArg some<|aR d;Kl 3 16 (ln aY u.kids)<|Kt 1 i<|Kt 0 i<|Kt 0 i<|Ku 0 i<|Mn (aL most b) (fun i=>have:=aG i;Kx 3 j<|Kl 2 32 (Le.wr (x:=deep+1) fH)<|Kl 2 35 (Le.wr (x:=most-b) fH)<|Mp (ih d (by exact aA c g) (by exact f4 _ (aA c g)) (deep+1) (most-b) oA oA oA oA)<|have:=Gp d (deep+1) (most-b) oA;Kl 0 37 (Le.wr (x:=b+na d (deep+1) (most-b)) fH)<|Kl 2 24 (dq a)<|Kf 0<|f (b+na d (deep+1) (most-b))<|by(refine⟨by omega,by omega,?_⟩;first|rfl|grind[nb])) fun a=>have:=ap a;Kf 1<|li<|rr0 b
noncomputable def IZ(u:TUnit)(most:Int):Bool:=aj (aL most (na u 0 most))&&ly u
theorem VB(u:TUnit)(most:Int)(hf:uW u)(m1:0<=most)(m2:most<=2^20):kP 100 [eU u,iV most] (.bool (IZ u most)):=by
  have rr0 b' (h:(IZ u most)=b':=by simp only[IZ,aS,aj,bS, *]):=h;exact b6 Tryz.func100<|Kp 3 (Uj u hf 0 most oA oA m1 m2)<|Kn 2 (aL most<|na u 0 most) (fun a=>Kt 0 (dY a)<|Mp (Pr u hf)<|MV (dY a)<|Kf 0<|cC<|rr0<|ly u) fun a=>Mh (c9 a)<|My (c9 a)<|Ky 0<|rr0 false
noncomputable def yy(s:au):Bool:=aj (aL 100 (.ofNat s.length))
noncomputable def yw(s:PStep):Bool:=aj (aL 100 (.ofNat s.label.length))
noncomputable def yS(x:PItem):Bool:=
  aj (aL 12 (.ofNat x.at_.length))&&aj (aL 12 (.ofNat x.to.length))&&aj (aL 300 (.ofNat x.old.length))&&aj (aL 300 (.ofNat x.new.length))&&aj (aL 100 (.ofNat x.label.length))&&aj (aL 100 (.ofNat x.for_.length))
  &&aj (aL 100 (.ofNat x.start.event.length))&&aj (aL 100 (.ofNat x.event.length))&&aj (aL 2 (.ofNat x.by_.length))&&IZ x.unit 30
noncomputable def Im(y:PItem):Bool:=aL 0 (.ofNat y.by_.length)&&aL 0 (.ofNat (gD y.by_ 0).by_.length)
mutual
noncomputable def nL:PItem->Bool
  |⟨k,a,t,w,nn,u,o,n,lb,fo,st,ac,it,dy,ev,by_⟩=>yS ⟨k,a,t,w,nn,u,o,n,lb,fo,st,ac,it,dy,ev,by_⟩&&(o.all yy&&(n.all yy&&(a.all yw&&(t.all yw&&IW by_))))
noncomputable def IW:List PItem->Bool
  |[]=>true
  |u::r=>(aj (Im u)&&nL u)&&IW r
end
noncomputable def II(y:PItem):Bool:=aj (Im y)&&nL y
theorem IX:∀(l:List PItem),IW l=l.all II
  |[]=>by rw[IW];rfl
  |u::r=>by rw[IW,IX r];rfl
theorem FQ(x:PItem):nL x=(yS x&&(x.old.all yy&&(x.new.all yy&&(x.at_.all yw&&(x.to.all yw&&x.by_.all II))))):=by
  obtain⟨k,a,t,w,nn,u,o,n,lb,fo,st,ac,it,dy,ev,by_⟩:=x
  rw[nL,IX];rfl
theorem VC:∀(x:PItem),n6 x->kP 61 [eI x] (.bool (nL x)):=by
  refine PItem.ind fun x ih hf=>?_
  obtain⟨f1,f2,f3,f4,f5,f6,f7⟩:=rA.1 hf
  have hu:kP 100 [eU x.unit,iV 30] (.bool (IZ x.unit 30)):=VB x.unit 30 f6 (by omega) (by omega)
  have rr0 b' (h:(nL x)=b':=by rw[FQ,yS];simp only[II,Im,yy,yw,aS,aj,bS, *]):=h;exact b6 Tryz.func61<|Kl 4 10 (ln aK x.at_)<|Ka 1 12 (Int.ofNat x.at_.length) (fun a _=>Mt a<|Mt a<|Mt a<|MV a<|Ky 17<|rr0 false) fun a _=>Kh 0 a<|Kh 0 a<|Kl 0 15 (ln aK x.to)<|Mh a<|Kw 0 a<|Ka 0 12 (Int.ofNat x.to.length) (fun a _=>Mt a<|Mt a<|Mt a<|MV a<|Ky 15<|rr0 false) fun a _=>Kh 0 a<|Kh 0 a<|Kl 0 21 (ln nP x.old)<|Mh a<|Kw 0 a<|Ka 0 300 (Int.ofNat x.old.length) (fun a _=>Mt a<|Mt a<|Mt a<|MV a<|Ky 13<|rr0 false) fun a _=>Kh 0 a<|Kh 0 a<|Kl 0 27 (ln nP x.new)<|Mh a<|Kw 0 a<|Ka 0 300 (Int.ofNat x.new.length) (fun a _=>Mt a<|Mt a<|Mt a<|MV a<|Ky 11<|rr0 false) fun a _=>Kh 0 a<|Kh 0 a<|Kh 0 a<|Kw 0 a<|Ka 0 100 (Int.ofNat<|List.length x.label) (fun a _=>Mt a<|Mt a<|Mt a<|MV a<|Ky 9<|rr0 false) fun a _=>Kh 0 a<|Kh 0 a<|Kh 0 a<|Kw 0 a<|Ka 0 100 (Int.ofNat<|List.length x.for_) (fun a _=>Mt a<|Mt a<|Mt a<|Mt a<|MV a<|Ky 7<|rr0 false) fun a _=>Kh 0 a<|Kh 0 a<|Kh 0 a<|Kh 0 a<|Kw 0 a<|Ka 0 100 (Int.ofNat<|List.length x.start.event) (fun a _=>Mt a<|Mt a<|Mt a<|MV a<|Ky 5<|rr0 false) fun a _=>Kh 0 a<|Kh 0 a<|Kh 0 a<|Kw 0 a<|Ka 0 100 (Int.ofNat<|List.length x.event) (fun a _=>Mt a<|Mt a<|Mt a<|MV a<|Ky 3<|rr0 false) fun a _=>Kh 0 a<|Kh 0 a<|Kl 0 58 (ln OS x.by_)<|Mh a<|Kw 0 a<|Ka 0 2 (Int.ofNat x.by_.length) (fun a _=>Mt a<|Mt a<|Mt a<|MV a<|Ky 1<|rr0 false) fun a _=>Kh 0 a<|Kh 0 a<|Mp hu<|Mh a<|Kw 0 a<|Mn (IZ x.unit 30) (fun _=>Ky 0<|rr0 false) fun _=>K1 0 (.frz 0 [1,3]) ti<|wS nP x.old [1,3] (fun a _=>([AV.pptr [ak (iLx x)] 0 0,nV a],[])) (fun a=>x.old.all yy=a.all yy) (by rfl) (fun _ _ _ _ _ a _=>Kl 3 70 (ln nP x.old)<|Kh 0 a<|Mg 0<|wS nP x.new [1,4] (fun a _=>([AV.pptr [ak (iLx x)] 0 0,nV a],[])) (fun a=>x.new.all yy=a.all yy) (by rfl) (fun _ _ _ _ _ a _=>Kl 3 84 (ln nP x.new)<|Kh 0 a<|Mg 0<|wS aK x.at_ [1,5] (fun a _=>([AV.pptr [ak (iLx x)] 0 0,nV a],[])) (fun a=>x.at_.all yw=a.all yw) (by rfl) (fun _ _ _ _ _ a _=>Kl 3 98 (ln aK x.at_)<|Kh 0 a<|Mg 0<|wS aK x.to [1,6] (fun a _=>([AV.pptr [ak (iLx x)] 0 0,nV a],[])) (fun a=>x.to.all yw=a.all yw) (by rfl) (fun _ _ _ _ _ a _=>Kl 3 113 (ln aK x.to)<|Kh 0 a<|Mg 0<|wS OS x.by_ [1,7] (fun a _=>([AV.pptr [ak (iLx x)] 0 0,nV a],[])) (fun a=>x.by_.all II=a.all II) (by rfl) (fun _ _ _ _ _ a _=>Kl 3 128 (ln OS x.by_)<|Kh 0 a<|Ky 0<|rr0 true) fun a _ b _ c d e f g _ i _=>have i:=i.trans<|congrArg some<|eT c;Kl 3 128 (ln OS x.by_)<|Kt 0 g<|Kx 2 i<|Kl 2 138 (ln OS c.by_)<|Ka 1 0 (Int.ofNat c.by_.length) (fun g _=>Kt 0 g<|Kt 0 g<|Kt 0 g<|Mx i<|Mt g<|Kt 0 g<|Kt 0 g<|Mx ((bd OS (sA:0<(c.by_).length)).trans<|congrArg some<|eT _)<|Mt g<|Kt 0 g<|Kt 0 g<|Kl 0 150 (ln OS (gD c.by_ 0).by_)<|Mt g<|Ku 0 g<|Ka 0 0 (Int.ofNat (gD c.by_ 0).by_.length) (fun a _=>Mt a<|Mt a<|Mt a<|Mt a<|Mt a<|Mt a<|MV a<|Ky 1<|rr0 false) fun g _=>Kh 0 g<|Kh 0 g<|Kh 0 g<|Mx i<|Mh g<|Kh 0 g<|Mp (ih c (by exact aA b f)<|by exact f7 _ (aA b f))<|Mh g<|Kw 0 g<|Mn (nL c) (fun _=>Kf 0<|cC<|rr0 false) fun _=>Kl 1 131 (dq a)<|Kf 0<|e<|by simp_all[II,Im]) fun g _=>Mh g<|Mh g<|Mh g<|Mh g<|Mh g<|Mh g<|Mh g<|Mh g<|Mh g<|Mh g<|My g<|Kx 3 i<|Kp 0 (ih c (by exact aA b f)<|by exact f7 _ (aA b f))<|Kn 1 (nL c) (fun _=>Kf 0<|cC<|rr0 false) fun _=>Kl 1 131 (dq a)<|Kf 0<|e<|by simp_all[II,Im]) fun a _ _ _ b c d _ e _ f _=>Kl 3 113 (ln aK x.to)<|Kt 0 e<|Kx 2 f<|Ka 3 100 (Int.ofNat<|List.length b.label) (fun _ _=>Ky 0<|rr0 false) fun _ _=>Kl 1 116 (dq a)<|Kf 0<|d<|by simp_all[yw]) fun a _ _ _ b c d _ e _ f _=>Kl 3 98 (ln aK x.at_)<|Kt 0 e<|Kx 2 f<|Ka 3 100 (Int.ofNat<|List.length b.label) (fun _ _=>Ky 0<|rr0 false) fun _ _=>Kl 1 101 (dq a)<|Kf 0<|d<|by simp_all[yw]) fun a _ _ _ b c d _ e _ f _=>Kl 3 84 (ln nP x.new)<|Kt 0 e<|Kx 2 f<|Ka 2 100 (Int.ofNat<|List.length b) (fun _ _=>Ky 0<|rr0 false) fun _ _=>Kl 1 87 (dq a)<|Kf 0<|d<|by simp_all[yy]) fun a _ _ _ b c d _ e _ f _=>Kl 3 70 (ln nP x.old)<|Kt 0 e<|Kx 2 f<|Ka 2 100 (Int.ofNat<|List.length b) (fun _ _=>Ky 0<|rr0 false) fun _ _=>Kl 1 73 (dq a)<|Kf 0<|d<|by simp_all[yy]
noncomputable def BO(most n:Int)(a:PAct):Bool:=aL most (n+Int.ofNat a.items.length)||(aL 100 (Int.ofNat a.title.length)||(aL 60 (Int.ofNat a.start.event.length)||aj (a.items.all nL)))
noncomputable def mG(most:Int):List PAct->Int->Option Int
  |[],n=>some n
  |a::r,n=>match BO most n a with|true=>none|false=>mG most r (n+Int.ofNat a.items.length)
noncomputable def wD(g:PGaz):Bool:=aL 8 (Int.ofNat g.acts.length)||aL 60 (Int.ofNat g.prior.length)
noncomputable def vb(most:Int):List PGaz->Int->Bool
  |[],_=>true
  |g::r,n=>match wD g with|true=>false|false=>match mG most g.acts n with|none=>false|some m=>vb most r m
noncomputable def IJ(gs:List PGaz)(most:Int):Bool:=match aL 8 (Int.ofNat gs.length)with|true=>false|false=>vb most gs 0
theorem VD(gs:List PGaz)(most:Int)(hf:qh gs)(m1:0<=most)(m2:most<=2^20):kP 24 [.ls (gs.map aI),iV most] (.bool (IJ gs most)):=by
  obtain⟨f0,f1⟩:=hf
  have fa:∀g,g∈gs->∀a,a∈g.acts->a.items.length<2^60:=fun g hg a ha=>((f1 g hg).2 a ha).1
  have fb:∀g,g∈gs->g.acts.length<2^60:=fun g hg=>(f1 g hg).1
  have rr0 b' (h:(IJ gs most)=b':=by simp only[IJ,vb,wD,mG,BO,aS,aj,bS, *]):=h;exact b6 Tryz.func24<|Kl 2 11 (ln aI gs)<|Ka 0 8 (Int.ofNat gs.length) (fun _ _=>Ky 0<|rr0 false) fun _ _=>Mg 1<|JY aI gs (0:Int) [0,1,5,6] (fun b _ c=>([aJ<|gs.map aI,iV most,iV c,nV b],[])) (fun b c=>(0:Int)<=c/\c<=most/\vb most gs (0:Int)=vb most b c) (by(refine⟨by omega,by omega,?_⟩;first|rfl|(simp only[vb,wD,mG,aS,aj,bS, *]))) (fun _ _ _ _ _ _ b _=>Kl 2 15 (ln aI gs)<|Kh 0 b<|Ky 0<|rr0 true) fun b _ c d _ e f i j k _ l m=>Kl 2 15 (ln aI gs)<|Kt 0 k<|Kx 1 l<|Kl 2 24 (ln ay e.acts)<|Ka 1 8 (Int.ofNat e.acts.length) (fun b _=>Mt b<|Mt b<|Mt b<|Mt b<|Mt b<|Mt b<|MV b<|Ky 1<|rr0 false) fun k _=>Kh 0 k<|Kh 0 k<|Mx l<|Mh k<|Kh 0 k<|Kh 0 k<|Kh 0 k<|Kw 0 k<|Mb (aL 60<|Int.ofNat<|List.length e.prior) (fun b=>have:=ap b;Ky 0<|rr0 false) fun k=>have:=aG k;Mg 0<|JY ay e.acts c [0,1,5,6,7] (fun c _ d=>([aJ<|gs.map aI,iV most,iV d,nV b,nV c],[])) (fun b d=>(0:Int)<=d/\d<=most/\mG most e.acts c=mG most b d) (by(exact⟨m.1,m.2.1,rfl⟩)) (fun _ _ c _ _ _ d _=>Kx 2 l<|Kl 2 41 (ln ay e.acts)<|Kh 0 d<|Kl 1 18 (dq b)<|Kf 0<|i c<|by(refine⟨by omega,by omega,?_⟩;first|rfl|(simp only[vb,wD,mG,aS,aj,bS, *]))) fun f _ i k _ m n o p q _ r _=>have:=fa e (aA d j) m<|aA k p;have:=fb e<|aA d j;Kx 2 l<|Kl 2 41 (ln ay e.acts)<|Kt 0 q<|Kx 1 l<|Kx 2 r<|Kl 6 56 (ln OS m.items)<|Kl 0 57 (Le.wr (x:=i+Int.ofNat m.items.length) fH)<|Ka 4 most (i+Int.ofNat m.items.length) (fun b _=>Mt b<|Mt b<|Mt b<|MV b<|Ky 3<|rr0 false) fun l _=>Kh 0 l<|Kh 0 l<|Kh 0 l<|Kw 0 l<|Ka 0 100 (Int.ofNat<|List.length m.title) (fun b _=>Mt b<|Mt b<|Mt b<|Mt b<|MV b<|Ky 1<|rr0 false) fun l _=>Kh 0 l<|Kh 0 l<|Kh 0 l<|Kh 0 l<|Kw 0 l<|Mb (aL 60<|Int.ofNat<|List.length m.start.event) (fun b=>have:=ap b;Ky 0<|rr0 false) fun l=>have:=aG l;K1 0 (.frz 0 [0,1,5,6,7,8,9]) ti<|wS OS m.items [0,1,5,6,7,8,9] (fun c _=>([aJ<|gs.map aI,iV most,iV<|i+Int.ofNat m.items.length,nV b,nV f,AV.pptr [ak [iV m.number,ax m.title,iV m.day,iV m.start.kind,iV m.start.day,ax m.start.event,aJ<|m.items.map OS]] 0 0,nV c],[])) (fun b=>m.items.all nL=b.all nL) (by rfl) (fun _ _ _ _ _ b _=>Kl 3 77 (ln OS m.items)<|Kh 0 b<|Kl 1 44 (dq f)<|Kf 0<|o (i+Int.ofNat m.items.length)<|by(refine⟨by(simp only[oN]at *;omega),by assumption,?_⟩;simp only[mG,BO,aS,aj,bS, *])) fun b _ c _ e f i l n _ o _=>have o:=o.trans<|congrArg some<|eT e;Kl 3 77 (ln OS m.items)<|Kt 0 n<|Kx 2 o<|Kp 0 (VC e<|by first|exact((f1 _ (aA d j)).2 _ (aA k p)).2 _ (aA c l))<|Kn 0 (nL e) (fun _=>Kf 0<|cC<|rr0 false) fun _=>Kl 1 80 (dq b)<|Kf 0<|i<|by simp only[aS,aj,bS, *]at *
noncomputable def Yd(gs:List PGaz)(p:au):Bool:=IJ gs 24&&aj (aL 60 (Int.ofNat p.length))
theorem ifB(l:au)(g:Nat)(p:UInt8->Bool)(hp:∀s,s∈l->kP g [.int .u8 (.ofNat s.toNat)] (.bool (p s)))(hl:l.length<2^40):kP 339 [.ls (l.map oV),.func (.func g) [] []] (iV (eZ p l 0)):=by
  have rr0 b' (h:(eZ p l 0)=b':=by first|exact mO zd0 hr0 hj0 ‹_› |exact hj0):=h;exact b6 Tryz.func339<|Kl 2 7 (ln oV l)<|Mg 0<|wS oV l [0,1,7,8] (fun a _=>([aJ<|l.map oV,bx (bz g) [] [],nV<|List.length l,nV a],[])) (fun a=>eZ p l (0:Nat)=eZ p a (List.length l-a.length)) sA (fun _ _ zd0 _ hr0 a hj0=>Kh 0 a<|Kf 0<|li<|rr0 (-1)) fun a _ zd0 _ b c d hr0 e _ f hj0=>Kt 0 e<|Kx 4 f<|Kp 0 (hp b<|by exact aA zd0 hr0)<|Mb (p b) (fun _=>Kf 1<|li<|rr0<|Int.ofNat a) fun _=>Kl 0 18 (dq a)<|Kf 0<|d<|by exact kR zd0 hr0 hj0 (by omega)
theorem cfB(l:au)(g:Nat)(p:UInt8->Bool)(hp:∀s,s∈l->kP g [.int .u8 (.ofNat s.toNat)] (.bool (p s)))(hl:l.length<2^40):kP 326 [.ls (l.map oV),.func (.func g) [] []] (.bool (l.any p)):=by
  have h:=ifB l g p hp hl
  have rr0 b' (h:(List.any l p)=b':=by(rw[mq];simp only[aS,aj,bS,sG])):=h;exact b6 Tryz.func326<|Kp 2 h<|Kf 1<|cC<|rr0<|aj<|aL (eZ p l 0) 0
theorem Ps(c:UInt8):kP 325 [.int .u8 (.ofNat c.toNat)] (.bool (aj (RB 33 126 c))):=by
  have rr0 b' (h:(aj (RB 33 126 c))=b':=by(simp only[RB,aS,aj,bS,sG, *])):=h;exact b6 Tryz.func325<|Kb 3 (aL (Int.ofNat c.toNat) 33) (fun a=>Mt a<|MV a<|Ky 0<|rr0 true) fun a=>Kh 0 a<|Kw 0 a<|Kf 0<|cC<|rr0<|aL 126<|Int.ofNat c.toNat
theorem T1(s:au)(hs:s.length<=2^39):kP 294 [.str s] (.bool (qv s)):=by
  have h:=cfB s 325 _ (fun c _=>Ps c) (by omega)
  have rr0 b' (h:(qv s)=b':=by first|(simp only[qv,aS,aj,bS, *];done)|(rw[qv,Sn,List.all_eq_not_any_not];simp only[EN,aS,aj,bS, *]at *)):=h;let q:=List.map oV s;exact b6 Tryz.func294<|Kn 4 (dH s (ByteArray.mk #[]).data.toList) (fun a=>Kt 0 (dY a)<|Kt 0 (dY a)<|Ku 0 (dY a)<|Kn 0 (aL 24<|Int.ofNat<|List.length s) (fun a=>Kt 0 (dY a)<|Mv (V9 (s:=s) (H:=aw []) (oA:(s).length<=2^40))<|Mt (dY a)<|Kt 0 (dY a)<|Mp (bY.onArgs (.cons (fc q _<|aW WN s)<|lc .nil) h:kP 326 [lY q false,bx (bz 325) [] []] _)<|Mt (dY a)<|Ku 0 (dY a)<|Kf 0<|cC<|rr0<|aj<|List.any s fun a=>aj<|RB 33 126 a) fun a=>Mh (c9 a)<|Mh (c9 a)<|Mh (c9 a)<|Mh (c9 a)<|My (c9 a)<|Ky 0<|rr0 false) fun a=>Mh (c9 a)<|Mh (c9 a)<|My (c9 a)<|Ky 2<|rr0 false
theorem ifS(l:List au)(g:Nat)(p:au->Bool)(hp:∀s,s∈l->kP g [.str s] (.bool (p s)))(hl:l.length<2^40):kP 324 [.ls (l.map nP),.func (.func g) [] []] (iV (eZ p l 0)):=by
  have rr0 b' (h:(eZ p l 0)=b':=by first|exact mO zd0 hr0 hj0 ‹_› |exact hj0):=h;exact b6 Tryz.func324<|Kl 2 7 (ln nP l)<|Mg 0<|wS nP l [0,1,7,8] (fun a _=>([aJ<|l.map nP,bx (bz g) [] [],nV l.length,nV a],[])) (fun a=>eZ p l (0:Nat)=eZ p a (l.length-a.length)) sA (fun _ _ zd0 _ hr0 a hj0=>Kh 0 a<|Kf 0<|li<|rr0 (-1)) fun a _ zd0 _ b c d hr0 e _ f hj0=>Kt 0 e<|Kx 4 f<|Kp 0 (hp b<|by exact aA zd0 hr0)<|Mb (p b) (fun _=>Kf 1<|li<|rr0<|Int.ofNat a) fun _=>Kl 0 18 (dq a)<|Kf 0<|d<|by exact kR zd0 hr0 hj0 (by omega)
theorem cfS(l:List au)(g:Nat)(p:au->Bool)(hp:∀s,s∈l->kP g [.str s] (.bool (p s)))(hl:l.length<2^40):kP 292 [.ls (l.map nP),.func (.func g) [] []] (.bool (l.any p)):=by
  have h:=ifS l g p hp hl
  have rr0 b' (h:(l.any p)=b':=by(rw[mq];simp only[aS,aj,bS,sG])):=h;exact b6 Tryz.func292<|Kp 2 h<|Kf 1<|cC<|rr0<|aj<|aL (eZ p l 0) 0
theorem NC(s:au)(hs:s.length<=2^39):kP 293 [.str s] (.bool (aj (qv s))):=by
  exact b6 Tryz.func293<|Kp 1 (T1 s hs)<|Kf 1<|bo<|dU<|aj<|qv s
theorem LG(l:List au)(hl:l.length<2^40)(hs:∀s,s∈l->s.length<=2^39):kP 256 [.ls (l.map nP)] (.bool (mA l)):=by
  have h:=cfS l 293 _ (fun s m=>NC s (hs s m)) hl
  have rr0 b' (h:(mA l)=b':=by first|(simp only[mA,aS,aj,bS, *];done)|(rw[mA,List.all_eq_not_any_not];simp only[aS,aj,bS, *])):=h;exact b6 Tryz.func256<|Kl 2 4 (ln nP l)<|Kn 1 (aL 256<|Int.ofNat l.length) (fun a=>Kt 0 (dY a)<|Mp h<|Mt (dY a)<|Ku 0 (dY a)<|Kf 0<|cC<|rr0<|aj<|l.any fun a=>aj<|qv a) fun a=>Mh (c9 a)<|Mh (c9 a)<|My (c9 a)<|Ky 0<|rr0 false
theorem Qu(r:Int):kP 150 [.int .i32 r] (.bool (aL r 48||aL 57 r)):=by
  have rr0 b' (h:(aL r 48||aL 57 r)=b':=by(simp only[aS,aj,bS, *])):=h;exact b6 Tryz.func150<|Kb 3 (aL r 48) (fun a=>Mt a<|MV a<|Ky 0<|rr0 true) fun a=>Kh 0 a<|Kw 0 a<|Kf 0<|cC<|rr0<|aL 57 r
theorem UI(r:Int):kP 105 [.int .i32 r] (.bool (aL r 65||aL 90 r)):=by
  have rr0 b' (h:(aL r 65||aL 90 r)=b':=by(simp only[aS,aj,bS, *])):=h;exact b6 Tryz.func105<|Kb 3 (aL r 65) (fun a=>Mt a<|MV a<|Ky 0<|rr0 true) fun a=>Kh 0 a<|Kw 0 a<|Kf 0<|cC<|rr0<|aL 90 r
theorem pU(s:PStep):kP 35 [aK s] (.bool (aa s.kind 0&&dH s.label [])):=by
  have rr0 b' (h:(aa s.kind 0&&dH s.label [])=b':=by(simp only[aS,aj,bS, *];first|done|rfl)):=h;exact b6 Tryz.func35<|Kb 5 (aa s.kind 0) (fun a=>Kt 0 a<|Kt 0 a<|Ku 0 a<|Kf 0<|cC<|rr0<|dH s.label (ByteArray.mk #[]).data.toList) fun a=>Mh a<|Mh a<|My a<|Ky 0<|rr0 false
theorem v9(n a b:Int):kP 207 [iV n,iV a,iV b] (.bool (aj (aL n a)&&aj (aL b n))):=by
  have rr0 b' (h:(aj (aL n a)&&aj (aL b n))=b':=by(simp only[aS,aj,bS, *])):=h;exact b6 Tryz.func207<|Kn 4 (aL n a) (fun c=>Kt 0 (dY c)<|Kt 0 (dY c)<|Ku 0 (dY c)<|Kf 0<|cC<|rr0<|aj<|aL b n) fun c=>Mh (c9 c)<|Mh (c9 c)<|My (c9 c)<|Ky 0<|rr0 false
theorem RF(s:au):kP 149 [.str s,.func (.func 150) [] []] (iV (bif Nat.beq (eN kc s) s.length then -1 else Int.ofNat (eN kc s))):=
  AP jX (Go.Proofs.enters_of Go.Proofs.Tryz.lidxf.f15 (by kernel_rfl) rfl) (Go.Proofs.enters_of Tryz.func150 (by kernel_rfl) rfl)
    (fun s w hp=>Go.Proofs.Any.strings_IndexFunc_grows Go.Proofs.Tryz.lidxf 150 #[] (Go.Proofs.enters_of Tryz.func150 (by kernel_rfl) rfl) _ s w hp) Qu (fun _=>rfl) (IC (lo:=48) (hi:=57) (by omega)) s
theorem RG(s:au)(h:By (Nat.beq (eN kc s) s.length) true):kP 149 [.str s,.func (.func 150) [] []] (iV (-1)):=by
  have:=RF s
  simp_all
theorem Ve(s:au)(h:By (Nat.beq (eN kc s) s.length) false):kP 149 [.str s,.func (.func 150) [] []] (nV (eN kc s)):=by
  have:=RF s
  grind
theorem abw(s:au):kP 106 [.str s,.func (.func 105) [] []] (.bool (aj (s.all YF))):=
  vC jX (Go.Proofs.enters_of Go.Proofs.Tryz.lconf.f17 (by kernel_rfl) rfl) (Go.Proofs.enters_of Tryz.func105 (by kernel_rfl) rfl)
    (fun s w hp=>Go.Proofs.Any.strings_ContainsFunc_grows Go.Proofs.Tryz.lconf 105 #[] (Go.Proofs.enters_of Tryz.func105 (by kernel_rfl) rfl) _ s w hp) UI (fun _=>rfl) (IC (lo:=65) (hi:=90) (by omega)) s
theorem OQ(s:au)(hs:s.length<=2^39):kP 104 [.str s] (.tuple [.str (s.take (eN kc s)),.str (s.drop (eN kc s))]):=by
  have hl:=LB (p:=kc) (s:=s)
  have rr0 b' (h:(s.take (eN kc s))=b':=by(rw[qx h0];simp)):=h;have rr1 b' (h:(s.drop (eN kc s))=b':=by(rw[qx h0];simp)):=h;let q:=AHeap.mk 1000000 Tr.nil;exact b6 Tryz.func104<|Ks 2 ((eN kc s).beq<|List.length s) (fun h0=>Mp (RG s h0)<|Kf 6<|cb<|.cons (Le.str<|rr0 s)<|.cons (Le.str<|rr1 []) .nil) fun h0=>Mp (Ve s h0)<|Kv 5 (Xy (s:=s) (n:=eN kc s) (k:=IntKind.i64) (H:=q) oA)<|Kv 1 (Xv (s:=s) (l:=eN kc s) (k:=IntKind.i64) (H:=q) oA)<|Kf 1<|bo<|bP [ax<|s.take<|eN kc s,ax<|s.drop<|eN kc s]
theorem vK(s:au)(hs:s.length<=2^39):kP 68 [.str s] (.bool (gI s)):=by
  have hd:(s.drop (eN kc s)).length<=2^39:=by grind
  have rr0 b' (h:(gI s)=b':=by first|(simp only[gI,aS,aj,bS,sG, *];done)|(simp only[gI,aS,aj,bS,sG, *];rfl)|(unfold gI;simp only[h0,h1,h2];rfl)):=h;exact b6 Tryz.func68<|Kp 1 (OQ s hs)<|Kd 9 (Int.ofNat (s.take<|eN kc s).length) 1 (fun h0 _=>Kt 0 (dY h0)<|Kt 0 (dY h0)<|Ku 0 (dY h0)<|Kd 0 4 (Int.ofNat (s.take<|eN kc s).length) (fun h1 _=>Kt 0 (dY h1)<|M1 (.chr<|gD (s.take<|eN kc s) 0) (Av (gR:0<(s.take (eN kc s)).length))<|Mt (dY h1)<|Ku 0 (dY h1)<|Kc 0 (Int.ofNat (gD (s.take<|eN kc s) 0).toNat) 48 (fun h2 _=>Kt 0 (dY h2)<|Kt 0 (dY h2)<|Ku 0 (dY h2)<|Kd 0 3 (Int.ofNat (s.drop<|eN kc s).length) (fun a _=>Kt 0 (dY a)<|Kt 0 (dY a)<|Mp (abw<|s.drop<|eN kc s)<|Mt (dY a)<|Ku 0 (dY a)<|Kf 0<|cC<|rr0<|aj<|aj<|(s.drop<|eN kc s).all YF) fun a _=>Mh (c9 a)<|Mh (c9 a)<|Mh (c9 a)<|My (c9 a)<|Ky 0<|rr0 false) fun h2 _=>Mh (c9 h2)<|Mh (c9 h2)<|My (c9 h2)<|Ky 2<|rr0 false) fun h1 _=>Mh (c9 h1)<|Mh (c9 h1)<|My (c9 h1)<|Ky 4<|rr0 false) fun h0 _=>Mh (c9 h0)<|Mh (c9 h0)<|My (c9 h0)<|Ky 6<|rr0 false
theorem pV(p:List PStep)(hl:p.length<2^40)(hs:∀s,s∈p->s.label.length<=2^39):kP 33 [.ls (p.map aK)] (.bool (jZ p)):=by
  have rr0 b' (h:(jZ p)=b':=by first|(rw[jZ,hj0,Wb];rfl)|(rw[jZ,Fp zd0 hr0 hj0];simp only[iR,nw,‹aa (Int.ofNat zi0) 0=_›,cond_true,cond_false];simp only[EN,aS,aj,bS, *];first|done|rfl)):=h;exact b6 Tryz.func33<|Kl 2 6 (ln aK p)<|Mg 0<|wS aK p [0,5,6,7] (fun a _=>([aJ<|p.map aK,aJ<|p.map aK,nV p.length,nV a],[])) (fun a=>LZ p=I6 p a) (by(exact PU)) (fun zi0 _ zd0 _ hr0 a hj0=>Kh 0 a<|Kl 1 34 (ln aK p)<|Kf 1<|cC<|rr0<|aj<|aL 9<|Int.ofNat p.length) fun zi0 _ zd0 _ a b c hr0 d _ e hj0=>Kt 0 d<|Kx 0 e<|Kj 6 (Int.ofNat zi0) 0 (fun d _=>Kt 0 d<|Mp (pU a)<|MV d<|Mb (aa a.kind 0&&dH a.label []) (fun _=>Kl 0 32 (dq zi0)<|K1 0 (.frz 0 [0,5,6,7]) ti<|Mf<|c<|by(rw[Fp zd0 hr0 hj0];simp only[iR,nw,‹aa (Int.ofNat zi0) 0=_›,cond_true,cond_false];simp only[EN,aS,aj,bS, *];first|done|rfl)) fun _=>Kd 3 0 a.kind (fun a _=>Mt (dY a)<|Mt (dY a)<|MV (dY a)<|Ky 3<|rr0 false) fun d _=>Kh 0 (c9 d)<|Kh 0 (c9 d)<|Kw 0 (c9 d)<|Ka 0 7 a.kind (fun a _=>Mt a<|Mt a<|Mt a<|MV a<|Ky 1<|rr0 false) fun d _=>Kh 0 d<|Kh 0 d<|Mp (vK a.label<|by exact hs _ (aA zd0 hr0))<|Mh d<|Kw 0 d<|Mn (gI a.label) (fun _=>Kf 0<|cC<|rr0 false) fun _=>Kl 0 32 (dq zi0)<|K1 0 (.frz 0 [0,5,6,7]) ti<|Mf<|c<|by(rw[Fp zd0 hr0 hj0];simp only[iR,nw,‹aa (Int.ofNat zi0) 0=_›,cond_true,cond_false];simp only[EN,aS,aj,bS, *];first|done|rfl)) fun d _=>Mh d<|My d<|Kd 4 0 a.kind (fun a _=>Mt (dY a)<|Mt (dY a)<|MV (dY a)<|Ky 3<|rr0 false) fun d _=>Kh 0 (c9 d)<|Kh 0 (c9 d)<|Kw 0 (c9 d)<|Ka 0 7 a.kind (fun a _=>Mt a<|Mt a<|Mt a<|MV a<|Ky 1<|rr0 false) fun d _=>Kh 0 d<|Kh 0 d<|Mp (vK a.label<|by exact hs _ (aA zd0 hr0))<|Mh d<|Kw 0 d<|Mn (gI a.label) (fun _=>Kf 0<|cC<|rr0 false) fun _=>Kl 0 32 (dq zi0)<|K1 0 (.frz 0 [0,5,6,7]) ti<|Mf<|c<|by(rw[Fp zd0 hr0 hj0];simp only[iR,nw,‹aa (Int.ofNat zi0) 0=_›,cond_true,cond_false];simp only[EN,aS,aj,bS, *];first|done|rfl)
theorem Vd(l:List Int)(v:Int)(hl:l.length<2^40):kP 316 [.ls (l.map bM),iV v] (iV (eZ (aa v) l 0)):=by
  have rr0 b' (h:(eZ (aa v) l 0)=b':=by first|exact mO zd0 hr0 hj0 ‹_› |exact hj0):=h;exact b6 Tryz.func316<|Kl 2 7 (ln bM l)<|Mg 0<|wS bM l [0,1,7,8] (fun a _=>([aJ<|l.map bM,iV v,nV l.length,nV a],[])) (fun a=>eZ (aa v) l (0:Nat)=eZ (aa v) a (l.length-a.length)) sA (fun _ _ zd0 _ hr0 a hj0=>Kh 0 a<|Kf 0<|li<|rr0 (-1)) fun a _ zd0 _ b c d hr0 e _ f hj0=>Kt 0 e<|Kx 4 f<|Kj 1 v b (fun _ _=>Kf 1<|li<|rr0<|Int.ofNat a) fun _ _=>Kl 0 18 (dq a)<|Kf 0<|d<|by exact kR zd0 hr0 hj0 (by omega)
theorem sb(l:List Int)(v:Int)(hl:l.length<2^40):kP 284 [.ls (l.map bM),iV v] (.bool (l.any (aa v))):=by
  have h:=Vd l v hl
  have rr0 b' (h:(l.any (aa v))=b':=by(rw[mq];simp only[aS,aj,bS,sG])):=h;exact b6 Tryz.func284<|Kp 2 h<|Kf 1<|cC<|rr0<|aj<|aL (eZ (aa v) l 0) 0
theorem RE(v:Int):kP 316 [.nils,iV v] (iV (-1)):=by
  let q:=[ab,iV v,iV 0,iV 0];exact b6 Tryz.func316<|Mg 3<|Y3 [0,1,7,8] (q,[]) True 0 ti fun _ _=>Kf 2<|bo<|iV (-1)
theorem Iu(v:Int):kP 284 [.nils,iV v] (.bool false):=by
  have h:=RE v
  exact b6 Tryz.func284<|Kp 2 h<|Kf 1<|bo<|dU false
theorem kn0:kP 336 [iV 0] (.str (bL 0)):=by
  exact wk Tryz.func336 (.go 11 .fin)<|bo<|ax [98,111,111,107]
theorem kn1:kP 336 [iV 1] (.str (bL 1)):=by
  exact wk Tryz.func336 (.go 11 .fin)<|bo<|ax [112,97,114,116]
theorem kn2:kP 336 [iV 2] (.str (bL 2)):=by
  exact wk Tryz.func336 (.go 11 .fin)<|bo<|ax [115,101,99,116,105,111,110]
theorem kn3:kP 336 [iV 3] (.str (bL 3)):=by
  exact wk Tryz.func336 (.go 11 .fin)<|bo<|ax [112,97,114,97,103,114,97,112,104]
theorem kn4:kP 336 [iV 4] (.str (bL 4)):=by
  exact wk Tryz.func336 (.go 11 .fin)<|bo<|ax [116,97,98,108,101]
theorem kn5:kP 336 [iV 5] (.str (bL 5)):=by
  exact wk Tryz.func336 (.go 11 .fin)<|bo<|ax [114,111,119]
theorem kn6:kP 336 [iV 6] (.str (bL 6)):=by
  exact wk Tryz.func336 (.go 11 .fin)<|bo<|ax [99,101,108,108]
theorem kn7:kP 336 [iV 7] (.str (bL 7)):=by
  exact wk Tryz.func336 (.go 11 .fin)<|bo<|ax [110,111,116,101]
theorem knX(k:Int)(h:k<0\/7<k):kP 336 [iV k] (.str (bL k)):=by
  rw[AE h]
  have c:aL k 0=true\/(aL k 0=false/\aL k 8=false):=by
    grind[nF,jI]
  rcases c with c|⟨c,d⟩
  · exact b6 Tryz.func336<|Kt 3 c<|Mt c<|MV c<|Kf 1<|bo<|ax []
  · exact b6 Tryz.func336<|Kh 3 c<|Kh 0 c<|Kw 0 c<|Mt (dY d)<|Kf 0<|bo<|ax []
theorem xu(k:Int):kP 336 [iV k] (.str (bL k)):=by
  by_cases h:k<0\/7<k
  · grind[knX]
  · grind[kn0,kn1,kn2,kn3,kn4,kn5,kn6,kn7]
theorem ccX(p k:Int)(h:p<0\/7<p):kP 237 [iV p,iV k] (.bool (iz p k)):=by
  unfold iz
  rw[zf h]
  have c:aL p 0=true\/(aL p 0=false/\aL p 8=false):=by
    grind[nF,jI]
  rcases c with c|⟨c,d⟩
  · exact b6 Tryz.func237<|Kh 3 (c9 c)<|Mh (c9 c)<|My (c9 c)<|Kf 2<|bo<|dU false
  · exact b6 Tryz.func237<|Kt 3 (dY c)<|Kt 0 (dY c)<|Ku 0 (dY c)<|Kh 0 d<|Mh d<|Mh d<|Mh d<|Mh d<|My d<|Kf 0<|bo<|dU false
theorem cc0(k:Int):kP 237 [iV 0,iV k] (.bool (iz 0 k)):=by
  have h:=sb [1,2] k (by grind)
  let q:=[iV 1,iV 2];exact b6 Tryz.func237<|Kp 11 (bY.onArgs (.cons (fc q _<|by rfl)<|lc .nil) h:kP 284 [lY q false,iV k] _)<|Kf 1<|bo<|dU<|[1,2].any<|aa k
theorem cc1(k:Int):kP 237 [iV 1,iV k] (.bool (iz 1 k)):=by
  have h:=sb [2] k (by grind)
  let q:=[iV 2];exact b6 Tryz.func237<|Kp 11 (bY.onArgs (.cons (fc q _<|by rfl)<|lc .nil) h:kP 284 [lY q false,iV k] _)<|Kf 1<|bo<|dU<|[2].any<|aa k
theorem cc2(k:Int):kP 237 [iV 2,iV k] (.bool (iz 2 k)):=by
  have h:=sb [3,4,7] k (by grind)
  let q:=[iV 3,iV 4,iV 7];exact b6 Tryz.func237<|Kp 11 (bY.onArgs (.cons (fc q _<|by rfl)<|lc .nil) h:kP 284 [lY q false,iV k] _)<|Kf 1<|bo<|dU<|[3,4,7].any<|aa k
theorem cc3(k:Int):kP 237 [iV 3,iV k] (.bool (iz 3 k)):=by
  have h:=sb [3,4,7] k (by grind)
  let q:=[iV 3,iV 4,iV 7];exact b6 Tryz.func237<|Kp 11 (bY.onArgs (.cons (fc q _<|by rfl)<|lc .nil) h:kP 284 [lY q false,iV k] _)<|Kf 1<|bo<|dU<|[3,4,7].any<|aa k
theorem cc4(k:Int):kP 237 [iV 4,iV k] (.bool (iz 4 k)):=by
  have h:=sb [5] k (by grind)
  let q:=[iV 5];exact b6 Tryz.func237<|Kp 11 (bY.onArgs (.cons (fc q _<|by rfl)<|lc .nil) h:kP 284 [lY q false,iV k] _)<|Kf 1<|bo<|dU<|[5].any<|aa k
theorem cc5(k:Int):kP 237 [iV 5,iV k] (.bool (iz 5 k)):=by
  have h:=sb [6] k (by grind)
  let q:=[iV 6];exact b6 Tryz.func237<|Kp 11 (bY.onArgs (.cons (fc q _<|by rfl)<|lc .nil) h:kP 284 [lY q false,iV k] _)<|Kf 1<|bo<|dU<|[6].any<|aa k
theorem cc6(k:Int):kP 237 [iV 6,iV k] (.bool (iz 6 k)):=by
  have h:=Iu k
  exact b6 Tryz.func237<|Kp 11 h<|Kf 1<|bo<|dU false
theorem cc7(k:Int):kP 237 [iV 7,iV k] (.bool (iz 7 k)):=by
  have h:=Iu k
  exact b6 Tryz.func237<|Kp 11 h<|Kf 1<|bo<|dU false
theorem Ad(p k:Int):kP 237 [iV p,iV k] (.bool (iz p k)):=by
  by_cases h:p<0\/7<p
  · grind[ccX]
  · grind[cc0,cc1,cc2,cc3,cc4,cc5,cc6,cc7]
theorem aF{n b m:Nat}(h1:n<=m)(h2:m<=2^40)(h3:m*b<=2^40):small n b=true:=by
  unfold small
  have h4:n*b<=m*b:=fV b h1
  grind[Nat.ble_eq_true_of_le]
noncomputable abbrev xU(u:TUnit):AObj:=.row 8 false 0 [eU u]
noncomputable abbrev nQ(p:PId):AObj:=.row 3 false 0 [aX p]
def Jk(p:PId)(u:TUnit)(x0:Nat×List TUnit×Unit):Prop:=(u.kids).drop x0.1=x0.2.1/\be p u.kids=be p x0.2.1
noncomputable def zb(p:PId)(u:TUnit)(x0:Nat×List TUnit×Unit):List AV×List AObj:=([AV.ptr 0 0 0 0,AV.ptr 1 0 0 0,AV.ls (u.kids.map aY),nV u.kids.length,nV x0.1],[AObj.row 8 false 0 [AV.agg (uLx u)],AObj.row 3 false 0 [AV.agg [iV p.a,iV p.i,iV p.n]]])
theorem GU(p:PId):∀(u:TUnit),nU u<=2^20->(bX p u=false->kP 58 [eU u,aX p] .nils)/\(bX p u=true->kP 58 [eU u,aX p] (.ps ((aE p u).map aY) false)):=by
  refine TUnit.ind fun u ih hn=>?_
  have ihn:∀k,k∈u.kids->By (bX p k) false->kP 58 [eU k,aX p] .nils:=fun k hk h=>(ih k hk (bu (qz (gv hk)) hn)).1 h
  have ihy:∀k,k∈u.kids->By (bX p k) true->kP 58 [eU k,aX p] (.ps ((aE p k).map aY) false):=fun k hk h=>(ih k hk (bu (qz (gv hk)) hn)).2 h
  have hkl:=bg u
  refine⟨fun hs=>?_,fun hs=>?_⟩
  · let q:=[ak (uLx u)];let q3:=[iV p.a,iV p.i,iV p.n];exact b6 Tryz.func58<|Kv 5 (kT ((Tryz.prog).underlying 26) u.act u.item u.n p.a p.i p.n<|aw [aZ 8 false 0 q,aZ 3 false 0 [ak q3]])<|Mb (aa u.act p.a&&(aa u.item p.i&&aa u.n p.n)) (fun _=>Kf 2<|fe (by exact absurd (hs.symm.trans (vv ‹_›)) (by grind):(AV.nils)=(AV.ps q true))) fun _=>Kl 2 16 (ln aY u.kids)<|Mg 0<|Pi (0:Nat) u.kids () [2,3,15,16,17] (fun a _ _=>([ah 0 0 0 0,ah 1 0 0 0,aJ<|u.kids.map aY,nV u.kids.length,nV a],[aZ 8 false 0 [ak (uLx u)],aZ 3 false 0 [ak [iV p.a,iV p.i,iV p.n]]])) (fun a b _=>(u.kids).drop a=b/\be p u.kids=be p b) (fun _ a _=>a.length) (et rfl<|by rfl) fun a b c d e=>Mc b (fun a=>have b:=eu d.1 a;have:=gJ (J:=fun a _=>be p u.kids=be p a) (a:=c) a d.2;Kh 0 b<|Kf 0<|bo ab) fun b f g=>let i:=List.map aY<|[u]++aE p b;have j:=fX d.1 g;have:=ap j;have l:=(ei (enc:=aY) d.1 g).trans<|congrArg some<|aR b;have c:=cw (J:=fun a _=>be p u.kids=be p a) (a:=c) g d.2;have:nU b<nU u:=gv<|aA d.1 g;have:(aE p b).length<=nU b:=lO b;Kt 0 j<|Mx l<|Ks 4 (bX p b) (fun a=>Mp (ihy b (by exact aA d.1 g) a)<|Mg 6<|M2 .apl (et (by simp_all[jl]:List.map aY (aE p b)≠[])<|gY (sz:=8) (f:=aY) (fun _=>by(rw[aR];rfl))<|aE p b) (et (by(refine aF (m:=2^21) ?_ ?_ ?_<;>(try simp only[lM,lC,lN])<;>(have:=lO (p:=p) b;omega)):small (([AV.agg (uLx u)]).length+((aE p b).map aY).length) 120=true) rt)<|M1 (.obj 3<|aZ 8 true 0 i) (congrArg (aZ 8 true 0) (by(simp only[sH,eg,zX,aR,eT]<;>rfl):[AV.agg (uLx u)]++List.map aY (aE p b)=List.map aY ([u]++aE p b)))<|Mg 0<|M2 (.fsl 0 [] 4 i) ti (cF (aV 0) (tA aY ([u]++aE p b) (q++List.map aY (aE p b)).length (sA:([u]++aE p b).length=([AV.agg (uLx u)]++List.map aY (aE p b)).length))<|aW iB<|[u]++aE p b)<|Ml 4 (fc i false<|aW iB<|[u]++aE p b)<|Mf<|fe (by exact absurd (hs.symm.trans (M4 (by assumption) c (by omega))) (by grind):(AV.nils)=(AV.ls i))) fun c=>Mp (ihn b (by exact aA d.1 g) c)<|Kl 4 30 (dq a)<|K1 0 (.frz 2 [2,3,15,16,17]) (cF rt rt ti)<|Mf<|e (a+1) f () (et (bf d.1 g)<|by grind[fQ])<|ed g
  · have rr0:∀b',(h:((aE p u).map aY)=b':=by first|rfl|exact absurd (hs.symm.trans (A5 (by assumption) hj0)) (by decide)|(rw[lP (by assumption),eg,aR];rfl)|(rw[yl (by assumption) hj0 (by assumption)];rfl))->((aE p u).map aY)=b':=(fun _ h=>h);let q:=[ak (uLx u)];let q3:=[iV p.a,iV p.i,iV p.n];exact b6 (hv:=(aW iB (aE p u))) Tryz.func58 (Kv 5 (Fo (d:=(Tryz.prog).underlying 26) (n:=3) (l:=(0,1)::(1,1)::(2,1)::[]) (xs:=[iV u.act,iV u.item,iV u.n]) (ys:=q3) (H:=aw [aZ 8 false 0 q,aZ 3 false 0 [ak q3]]) rfl (qi (e:=aa u.act p.a) rfl rfl rfl (qi (e:=aa u.item p.i) rfl rfl rfl (Dr (e:=aa u.n p.n) rfl rfl rfl rfl)))) (Mb (aa u.act p.a&&(aa u.item p.i&&aa u.n p.n)) (fun h0=>Kf 2 ((TI (rr0 q)):Le _ (lY q true))) (fun h0=>Kl 2 16 (Le.len (f:=aY) (l:=u.kids)) (Mg 0 (ML (Nat×List TUnit×Unit) [2,3,15,16,17] (zb p u) (Jk p u) (fun x=>x.2.1.length) (0,u.kids,()) (aV ((zb p u) (0,u.kids,()))) (et (rfl:List.drop 0 (u.kids)=u.kids) (by rfl:(be p u.kids=be p u.kids))) (fun x0 hx0 nx0=>Mc x0.2.1 (fun hr0=>have lt0:=eu hx0.1 hr0;have hj0:=gJ (J:=fun r x=>be p u.kids=be p r) (a:=x0.2.2) hr0 hx0.2;(Kh 0 lt0 (Kf 0 (fe (by exact absurd (hs.symm.trans (A5 (by assumption) hj0)) (by grind):(AV.ps ((aE p u).map aY) false)=(AV.nils)))))) (fun w0 r0 hr0=>let q2:=List.map aY ([u]++aE p w0);have lt0:=fX hx0.1 hr0;have glt0:=ap lt0;have nt0:=(ei (enc:=aY) hx0.1 hr0).trans (congrArg some (aR w0));have hj0:=cw (J:=fun r x=>be p u.kids=be p r) (a:=x0.2.2) hr0 hx0.2;have q0:nU w0<nU u:=gv (aA hx0.1 hr0);have q1:(aE p w0).length<=nU w0:=lO w0;(Kt 0 lt0 (Mx nt0 (Ks 4 (bX p w0) (fun h2=>Mp (ihy w0 (by exact aA hx0.1 hr0) h2) (Mg 6 (M2 .apl (et (by simp_all[jl]:List.map aY (aE p w0)≠[]) (gY (sz:=8) (f:=aY) (fun _=>by(rw[aR];rfl)) (aE p w0))) (et (by(refine aF (m:=2^21) ?_ ?_ ?_<;>(try simp only[lM,lC,lN])<;>(have:=lO (p:=p) w0;omega)):small (([AV.agg (uLx u)]).length+((aE p w0).map aY).length) 120=true) rt) (M1 (.obj 3 (aZ 8 true 0 q2)) (congrArg (aZ 8 true 0) (by(simp only[sH,eg,zX,aR,eT]<;>rfl):[AV.agg (uLx u)]++List.map aY (aE p w0)=List.map aY ([u]++aE p w0))) (Mg 0 (M2 (.fsl 0 [] 4 q2) ti (cF (aV (0)) (Ej (f:=aY) (l:=[u]++aE p w0) (n:=(q++List.map aY (aE p w0)).length) (by simp_all:([u]++aE p w0).length=([AV.agg (uLx u)]++List.map aY (aE p w0)).length)) (aW iB ([u]++aE p w0))) (Mf ((TI (rr0 q2)):Le _ (lY q2 false))))))))) (fun h2=>Mp (ihn w0 (by exact aA hx0.1 hr0) h2) (Kl 4 30 (Le.wr (x:=Int.ofNat x0.1+1) fH) (K1 0 (.frz 2 [2,3,15,16,17]) (cF rt rt ti) (Mf (nx0 (x0.1+1,r0,()) (et (bf hx0.1 hr0) (by grind[fQ]:(be p u.kids=be p r0))) (ed hr0))))))))))))))))
theorem Lw(p:PId)(u:TUnit)(h:By (bX p u) false)(hn:nU u<=2^20):kP 58 [eU u,aX p] .nils:=(GU p u hn).1 h
theorem GK(p:PId)(u:TUnit)(h:By (bX p u) true)(hn:nU u<=2^20):kP 58 [eU u,aX p] (.ps ((aE p u).map aY) false):=(GU p u hn).2 h
theorem S0:kP 99 [.nils] .nils:=by
  exact wk Tryz.func99 (.go 4 .fin)<|bo ab
theorem SS:kP 99 [.ps [] false] (.ps [] true):=by
  exact wk Tryz.func99 (.go 7 .fin)<|bo<|lY [] true
theorem S1(w:PWord)(r:List PWord)(hl:r.length<2^30):kP 99 [.ls ((w::r).map aQ)] (.ls ((w::r).map aQ)):=by
  let q:=List.map aQ (w::r);exact b6 Tryz.func99<|Mg 1<|Mz 3 (fun(a:((w::r).map aQ:List AV)=[])=>Mw .abs<|mo _ _ a)<|Mg 3<|M2 .apl (et (sA:List.map aQ (w::r)≠[])<|fM 4 aQ (w::r) fun _=>rfl) (by(refine aF (m:=2^31) ?_ ?_ ?_<;>first|omega|grind):small ((w::r).map aQ).length 40=true)<|Mg 0<|M2 (.fsl 0 [] 2 q) ti (cF (aV 0) (tA aQ (w::r) q.length (sA:(w::r).length=((w::r).map aQ).length))<|aW jx<|w::r)<|Ml 2 (fc q false<|aW jx<|w::r)<|Mf<|bo<|aJ q
theorem OJ(p:PId)(u:TUnit)(h:By (bX p u) false)(hn:nU u<=2^20):kP 253 [eU u,.pptr [aX p] 0 0] (.bool false):=by
  have h':bX p u=false:=h
  exact b6 Tryz.func253<|Kp 3 (Lw p u h hn)<|Kf 1<|bo<|dU false
theorem OW(p:PId)(u:TUnit)(h:By (bX p u) true)(hn:nU u<=2^20):kP 253 [eU u,.pptr [aX p] 0 0] (.bool true):=by
  have h':bX p u=true:=h
  exact b6 Tryz.func253<|Kp 3 (GK p u h hn)<|Kf 1<|bo<|dU true
theorem ab9(l:List TUnit)(g:Nat)(q:TUnit->Bool)(hp:∀k,k∈l->kP g [eU k] (.bool (q k)))(hl:l.length<2^40):kP 252 [.ls (l.map aY),.func (.func g) [] []] (iV (eZ q l 0)):=by
  have rr0 b' (h:(eZ q l 0)=b':=by first|exact mO zd0 hr0 hj0 ‹_› |exact hj0):=h;exact b6 Tryz.func252<|Kl 2 7 (ln aY l)<|Mg 0<|wS aY l [0,1,7,8] (fun a _=>([aJ<|l.map aY,bx (bz g) [] [],nV l.length,nV a],[])) (fun a=>eZ q l (0:Nat)=eZ q a (l.length-a.length)) sA (fun _ _ zd0 _ hr0 a hj0=>Kh 0 a<|Kf 0<|li<|rr0 (-1)) fun a _ zd0 _ b c d hr0 e _ f hj0=>have f:=f.trans<|congrArg some<|aR b;Kt 0 e<|Kx 4 f<|Kp 0 (hp b<|by exact aA zd0 hr0)<|Mb (q b) (fun _=>Kf 1<|li<|rr0<|Int.ofNat a) fun _=>Kl 0 18 (dq a)<|Kf 0<|d<|by exact kR zd0 hr0 hj0 (by omega)
theorem abq(l:List TUnit)(g:Nat)(p:PId)(q:TUnit->Bool)(hp:∀k,k∈l->kP g [eU k,.pptr [aX p] 0 0] (.bool (q k)))(hl:l.length<2^40):kP 252 [.ls (l.map aY),.func (.func g) [] [.pptr [aX p] 0 0]] (iV (eZ q l 0)):=by
  have rr0 b' (h:(eZ q l 0)=b':=by first|exact mO zd0 hr0 hj0 ‹_› |exact hj0):=h;exact b6 Tryz.func252<|Kl 2 7 (ln aY l)<|Mg 0<|wS aY l [0,1,7,8] (fun a _=>([aJ<|l.map aY,bx (bz g) [] [AV.pptr [ak [iV p.a,iV p.i,iV p.n]] 0 0],nV l.length,nV a],[])) (fun a=>eZ q l (0:Nat)=eZ q a (l.length-a.length)) sA (fun _ _ zd0 _ hr0 a hj0=>Kh 0 a<|Kf 0<|li<|rr0 (-1)) fun a _ zd0 _ b c d hr0 e _ f hj0=>have f:=f.trans<|congrArg some<|aR b;Kt 0 e<|Kx 4 f<|Kp 0 (hp b<|by exact aA zd0 hr0)<|Mb (q b) (fun _=>Kf 1<|li<|rr0<|Int.ofNat a) fun _=>Kl 0 18 (dq a)<|Kf 0<|d<|by exact kR zd0 hr0 hj0 (by omega)
theorem SB{D a:Nat}{w:TUnit}{r:List TUnit}{u:TUnit}(h:D=Nat.max a (jL (w::r))/\a<=2^20)(q0:nU w<nU u)(q1:gd w<nU w)(hn:nU u<=2^20):D=Nat.max (Nat.max a (1+gd w)) (jL r)/\Nat.max a (1+gd w)<=2^20:=by
  grind[jL]
theorem VS{D a:Nat}(h:D=Nat.max a (jL [])/\a<=2^20):D=a:=by
  simp_all[DD]
theorem Ih:∀(u:TUnit),nU u<=2^20->kP 241 [eU u] (nV (gd u)):=by
  refine TUnit.ind fun u ih hn=>?_
  have hkl:=bg u
  have ihk:∀k,k∈u.kids->kP 241 [eU k] (nV (gd k)):=fun k hk=>ih k hk (bu (qz (gv hk)) hn)
  have rr0 b' (h:(Int.ofNat (gd u))=b':=by(rw[mR,VS hj0])):=h;exact b6 Tryz.func241<|Kl 5 8 (ln aY u.kids)<|Mg 0<|JY aY u.kids (0:Nat) [3,7,8,9] (fun a _ b=>([nV b,aJ<|u.kids.map aY,nV u.kids.length,nV a],[aZ 8 false 0 [ak (uLx u)]])) (fun a b=>jL u.kids=b.max (jL a)/\b<=2^20) sA (fun _ _ a _ _ _ b hj0=>Kh 0 b<|Kf 1<|li<|rr0<|Int.ofNat a) fun a _ b c d e f g i j _ l _=>have l:=(l).trans<|congrArg some<|aR e;have hj0:=cw (J:=fun a b=>jL u.kids=b.max (jL a)/\b<=2^20) (a:=b) i d;have d:=gv<|aA c i;have m:=FY e;Kt 0 j<|Mx l<|Kp 4 (ihk e<|by exact aA c i)<|Kl 0 16 (cn (x:=(1:Int)+Int.ofNat (gd e)) (n:=(1:Nat)+gd e) fH)<|Kl 0 17 (ot (k:=IntKind.i64)<|XE b<|1+gd e)<|Kl 1 18 (kf a)<|K1 0 (.frz 1 [3,7,8,9]) (et rt ti)<|Mf<|g (b.max<|1+gd e)<|by exact SB hj0 d m hn
theorem NX(g:Nat)(q:TUnit->Bool):∀(u:TUnit),(∀x,x∈bv u->kP g [eU x] (.bool (q x)))->u.kids.length<2^40->(∀x,x∈bv u->x.kids.length<2^40)->kP 101 [eU u,.func (.func g) [] []] (.bool (vP q u)):=by
  refine TUnit.ind fun u ih hp hl hk=>?_
  have ihk:∀k,k∈u.kids->kP 101 [eU k,.func (.func g) [] []] (.bool (vP q k)):=fun k hm=>ih k hm (fun x hx=>hp x (bj hm hx)) (hk k (yN hm)) (fun x hx=>hk x (bj hm hx))
  have hs:=hp u (cX u)
  have rr0 b' (h:(vP q u)=b':=by first|(rw[y9];simp only[aS,aj,bS, *];done)|(rw[y9,hj0,PY])|(rw[y9,hj0,BM];simp only[aS,aj,bS, *];done)):=h;exact b6 Tryz.func101<|Kp 3 hs<|Kn 0 (q u) (fun _=>Ky 0<|rr0 false) fun _=>Kl 2 13 (ln aY u.kids)<|K1 0 (.frz 0 [1,12,13,14]) ti<|wS aY u.kids [1,12,13,14] (fun a _=>([bx (bz g) [] [],aJ<|u.kids.map aY,nV u.kids.length,nV a],[])) (fun a=>(q u&&(dD u.kids).all q)=(dD a).all q) (by(simp only[aS,aj,bS, *];done)) (fun _ _ _ _ _ a hj0=>Kh 0 a<|Ky 0<|rr0 true) fun a _ b _ c d e f i _ j hj0=>have j:=j.trans<|congrArg some<|aR c;Kt 0 i<|Mx j<|Kp 4 (ihk c<|by exact aA b f)<|Kn 0 (vP q c) (fun _=>Kf 0<|cC<|rr0 false) fun _=>Kl 0 22 (dq a)<|K1 0 (.frz 0 [1,12,13,14]) ti<|Mf<|e<|by simp_all[BM]
theorem O3(u:TUnit)(n:Nat)(hn:n<2^40):kD 242 [eU u,.ptr 0 0 0 0] (aw [.row 1 false 0 [nV n]]) (.bool true) (aw [.row 1 false 0 [nV (n+1)]]):=by
  exact dL Tryz.func242 fun a=>Kl 3 5 (kf n)<|K1 1 (.frz 1 [3]) (et rt ti)<|Mf a
theorem IK:∀(u:TUnit),∀(n:Nat),n+nU u<2^40->kD 101 [eU u,.func (.func 242) [] [.ptr 0 0 0 0]] (aw [.row 1 false 0 [nV n]]) (.bool true) (aw [.row 1 false 0 [nV (n+nU u)]]):=by
  refine TUnit.ind fun u ih n hn=>?_
  have hq:=ju u
  have hl:=bg u
  exact GJ Tryz.func101<|K1 3 (.frz 1 [1,2,7,8]) (et rt ti)<|Me (O3 u n oA)<|Kl 4 13 (ln aY u.kids)<|Mg 0<|JY aY u.kids (n+1) [1,12,13,14] (fun a _ b=>([bx (bz 242) [] [ah 0 0 0 0],aJ<|u.kids.map aY,nV u.kids.length,nV a],[aZ 1 false 0 [nV b]])) (fun a b=>n+nU u=b+eL a/\b+eL a<2^40) oA (fun _ _ a _ _ _ b _=>Kh 0 b<|Kf 0<|et (aV<|dU true) (by simp_all[mL]:(aw [AObj.row 1 false 0 [nV a]])=(aw [AObj.row 1 false 0 [nV (n+nU u)]]))) fun a _ b c _ d e f g h _ i _=>have i:=i.trans<|congrArg some<|aR d;have c:=aA c g;have g:b+nU d<2^40:=(by grind[bF]);Kt 0 h<|Mx i<|K1 4 (.frz 1 [1,12,13,14,18,19]) (et rt ti)<|Me (ih d c b g)<|Kl 2 22 (kf a)<|Kf 0<|f (b+nU d)<|by grind[bF]
theorem Fz(u:TUnit)(hn:nU u<2^39):kP 171 [eU u] (nV (nU u)):=by
  have rr0 b' (h:(Int.ofNat (nU u))=b':=by(rw[gn])):=h;exact b6 Tryz.func171<|Mg 5<|M0 (.ren [1,0] [] [3,4,5])<|M1 (.frz 1 [3,4,5]) (et rt ti)<|Me (IK u 0 oA)<|Kf 1<|li<|rr0<|Int.ofNat<|0+nU u
noncomputable abbrev sE(ep n:Nat):AObj:=.row 1 false 0 [.slice 1 ep 0 n none]
noncomputable abbrev N8(ep:Nat)(l:List PId):AObj:=.row 3 true ep (l.map aX)
theorem YX(u:TUnit):kD 102 [eU u,.ptr 0 0 0 0] (aw [.row 1 false 0 [.nils]]) (.bool true) (aw [sE 0 1,N8 0 [am u]]):=by
  exact wcq Tryz.func102 (.go 8<|.ren [0,2,1] [] [3]<|.frz 2 [3] .fin) fun a=>et (cF rt rt ti) a
theorem YW(u:TUnit)(ep n:Nat)(l:List PId)(hn:n=l.length)(hl:l.length<2^30):kD 102 [eU u,.ptr 0 0 0 0] (aw [sE ep n,N8 ep l]) (.bool true) (aw [sE (ep+1) (n+1),N8 (ep+1) (l++[am u])]):=by
  exact dL Tryz.func102 fun a=>K1 5 .app (cF (aV ep) (sA:n=(l.map aX).length) (by(refine aF (m:=2^31) ?_ ?_ ?_<;>omega):small (n+1) 24=true))<|M1 (.obj 1<|aZ 3 true (ep+1)<|(l++[PId.mk u.act u.item u.n]).map aX) (congrArg (aZ 3 true<|ep+1)<|cT (f:=aX) (l:=l) (ws:=[PId.mk u.act u.item u.n]))<|K1 1 (.frz 2 [3]) (cF (tR 3 true (ep+1) 2<|aW Bc<|l++[PId.mk u.act u.item u.n]) rt ti)<|Mf a
theorem OL:∀(u:TUnit),∀(ep n:Nat)(l:List PId),n=l.length->l.length+nU u<2^30->kC 101 [eU u,.func (.func 102) [] [.ptr 0 0 0 0]] (aw [sE ep n,N8 ep l])
    (fun v h=>∃y:Nat×Nat×List PId,(y.2.1=y.2.2.length/\y.2.2=l++de u)/\v=.bool true/\h=aw [sE y.1 y.2.1,N8 y.1 y.2.2]):=by
  refine TUnit.ind fun u ih ep n l hn hl=>?_
  have hq:=ju u
  have hkl:=bg u
  exact qS Tryz.func101 fun a=>K1 3 (.frz 2 [1,2,7,8]) (cF (tR 3 true ep 2<|aW Bc l) rt ti)<|Me (YW u ep n l hn oA)<|Kl 4 13 (ln aY u.kids)<|Mg 0<|TS aY u.kids (ep+1) (n+1) (l++[am u]) [1,12,13,14] (fun a _ b c d=>([bx (bz 102) [] [ah 0 0 0 0],aJ<|u.kids.map aY,nV u.kids.length,nV a],[aZ 1 false 0 [bQ 1 b 0 c none],aZ 3 true b<|d.map aX])) (fun a _ b c=>b=c.length/\c++bG a=l++[am u]++bG u.kids/\c.length+eL a<2^30) gR (fun _ _ b c d _ _ _ e _=>Kh 0 e<|Kf 0<|a (b,c,d)<|by grind[lF,ib]) fun a _ b c d e f g i j k m _ o _=>have o:=(o).trans<|congrArg some<|aR g;have:=cw (J:=fun a b=>b.2.1=b.2.2.length/\b.2.2++bG a=l++[am u]++bG u.kids/\b.2.2.length+eL a<2^30) (a:=(b,c,d)) k f;have e:=aA e k;have f:d.length+nU g<2^30:=(by grind[bF]);Kt 0 m<|Mx o<|K1 4 (.frz 2 [1,12,13,14,18,19]) (cF (tR 3 true b 2<|aW Bc d) rt ti)<|Mq (ih g e b c d oA f) fun b _=>Kl 2 22 (dq a)<|Kf 0<|j b.1 b.2.1 b.2.2<|by grind[bF,dS,vw]
theorem Wo(l:List PWord)(hl:l.length<=300)(hs:∀w,w∈l->w.text.length<=2^39):kP 338 [.ls (l.map aQ)] (.bool (eM l)):=by
  have hv:=LG (l.map PWord.text) (by grind) (fun s hm=>by grind)
  have rr0 b' (h:(eM l)=b':=by(simp only[eM,aS,aj,bS, *])):=h;exact b6 Tryz.func338<|Kl 3 7 (ln aQ l)<|Mg 0<|ka Nat Nat (List au) aQ l [0,3,6,7,8] (fun a _=>([aJ<|l.map aQ,ab,aJ<|l.map aQ,nV l.length,nV a],[])) (fun a _ b c d=>([aJ<|l.map aQ,bQ 0 b 0 c none,aJ<|l.map aQ,nV l.length,nV a],[aZ 1 true b<|d.map nP])) (fun a=>a=l) (fun a _ b c=>b=c.length/\(0:Nat)<c.length/\c++List.map PWord.text a=List.map PWord.text l/\c.length+a.length=l.length) (by rfl) (fun _ _ _ _ _ a _=>Kh 0 a<|Kl 1 19 (ln aQ l)<|Kd 1 256 (Int.ofNat l.length) (fun a _=>Kt 0 (dY a)<|Mp (bY.onArgs (.cons (Le.lsn (sA:((l.map PWord.text).map nP)=[])) .nil) hv:kP 256 [ab] _)<|MV (dY a)<|Kf 0<|cC<|rr0<|mA<|l.map PWord.text) fun a _=>Mh (c9 a)<|My (c9 a)<|Kf 0<|cC<|rr0 false) (fun a _ _ _ b c _ d _ e _ f g=>Kt 0 e<|Mx f<|Kl 9 17 (kf a)<|Mg 0<|M0 (.ren [1,0] [] [0,3,6,7,8])<|M1 (.frz 1 [0,3,6,7,8]) (et rt ti)<|Mf<|d 0 1 [b.text]<|by(refine⟨rfl,by simp,?_,?_⟩<;>(rw[<-g])<;>(first|rfl|grind))) (fun _ _ a b c _ _ _ d _=>Kh 0 d<|Kl 1 19 (ln aQ l)<|Kd 1 256 (Int.ofNat l.length) (fun d _=>Mg 0<|M2 (.fsl 0 [21] 22<|c.map nP) ti (cF (aV a) (tA nP c b (oA:(c).length=b))<|aW KE c)<|Ml 22 (fc (c.map nP) false<|aW KE c)<|Mt (dY d)<|Mp (bY.onArgs (.cons (ct (sA:((l.map PWord.text).map nP)=(c.map nP))) .nil) hv:kP 256 [aJ (c.map nP)] _)<|MV (dY d)<|Kf 0<|cC<|rr0<|mA<|l.map PWord.text) fun a _=>Mh (c9 a)<|My (c9 a)<|Kf 0<|cC<|rr0 false) fun a _ b c d _ _ e f _ g _ i _ j k=>Kt 0 i<|Mx j<|K1 6 .app (cF (aV b) (sA:c=(d.map nP).length) (by(refine aF (m:=2^20) ?_ ?_ ?_<;>omega):small (c+1) 16=true))<|M1 (.obj 0<|aZ 1 true (b+1)<|(d++[e.text]).map nP) (congrArg (aZ 1 true<|b+1)<|cT (f:=nP) (l:=d) (ws:=[e.text]))<|Kl 1 17 (kf a)<|K1 0 (.frz 1 [0,3,6,7,8]) (et (tR 1 true (b+1) 1<|aW KE<|d++[e.text]) ti)<|Mf<|g (b+1) (c+1) (d++[e.text])<|by(refine⟨by simp_all,by simp,?_,?_⟩<;>first|(rw[<-k.2.2.1];simp;done)|grind)
theorem pt(a b:Nat):Int.ofNat (a+b)=Int.ofNat a+Int.ofNat b:=rfl
theorem Tf(u:TUnit)(h1:u.head.length<=300)(h2:u.words.length<=300)(h3:u.kids.length<2^30)(h4:u.label.length<=2^39)(h5:∀w,w∈u.head->w.text.length<=2^39)(h6:∀w,w∈u.words->w.text.length<=2^39):kP 321 [eU u] (.bool (j9 u)):=by
  have hlk:∀(m:List ((Int×au)×Bool))(a:Int)(s:au),eS (some (.bool false)) false (bw true 2 [(0,1),(1,2)] (.agg [iV a,.str s]) (an ql dr m 0) 0)=some (.bool (FR lZ (a,s) m)):=fun m a s=>Hk MC m (a,s)
  have hup:∀(m:List ((Int×au)×Bool))(a:Int)(s:au),qt (an ql dr m 0) m.length (.agg [iV a,.str s]) (.bool true) (bw true 2 [(0,1),(1,2)] (.agg [iV a,.str s]) (an ql dr m 0) 0)=some (an ql dr (fZ lZ (a,s) true m) 0,(fZ lZ (a,s) true m).length):=fun m a s=>Ly MC m (a,s)
  have r1:=Wo u.head h1 h5
  have r2:=Wo u.words h2 h6
  have r3:=vK u.label h4
  have rr0 b' (h:(j9 u)=b':=by first|(rw[j9,hj0,lD];simp only[EN,bc,pt,cond_true,cond_false,aS,aj,bS,zq,Bool.false_and,Bool.not_true,Cl,Bool.true_and, *];first|done|rfl)|(simp only[j9,EN,bc,pt,cond_true,cond_false,aS,aj,bS, *];done)|(simp only[j9,lD,EN,bc,pt,cond_true,cond_false,aS,aj,bS, *];done)|(simp only[j9,lD,EN,bc,pt,cond_true,cond_false,aS,aj,bS,zq,Bool.false_and,Bool.not_true,Cl,Bool.true_and, *];first|done|rfl)):=h;exact b6 Tryz.func321<|Kj 4 u.kind 0 (fun _ b=>Kn 3 (dH u.label (ByteArray.mk #[]).data.toList) (fun b=>Mt (dY b)<|Mt (dY b)<|Mt (dY b)<|Mt (dY b)<|Mt (dY b)<|Mt (dY b)<|Mt (dY b)<|MV (dY b)<|Ky 1<|rr0 false) fun c=>Kh 0 (c9 c)<|Kh 0 (c9 c)<|Kl 0 16 (ln aQ u.head)<|Mh (c9 c)<|Kh 0 (c9 c)<|Kh 0 (c9 c)<|Kl 0 19 (ln aQ u.words)<|Mh (c9 c)<|Kl 0 20 (Le.wr (x:=Int.ofNat u.head.length+Int.ofNat u.words.length) fH)<|Mh (c9 c)<|Kw 0 (c9 c)<|Mb (aL 0<|Int.ofNat u.head.length+Int.ofNat u.words.length) (fun b=>have:=ap b;Ky 0<|rr0 false) fun c=>have:=aG c;Kl 4 48 (ln aY u.kids)<|Mg 0<|JY aY u.kids ([]:List ((Int×au)×Bool)) [1,3,47,48,49] (fun b _ c=>([ah 0 0 0 0,AV.map 1,aJ<|u.kids.map aY,nV u.kids.length,nV b],[aZ 8 false 0 [ak (uLx u)],AObj.map (an ql dr c 0) c.length])) (fun b c=>lD u.kind u.kids []=lD u.kind b c) (by rfl) (fun _ _ _ _ _ _ b hj0=>Kh 0 b<|Kl 2 74 (ln aY u.kids)<|Kf 1<|cC<|rr0<|aj<|aL 64<|Int.ofNat u.kids.length) fun c _ d _ _ e f g _ i _ j hj0=>have j:=j.trans<|congrArg some<|aR e;Kt 0 i<|Mx j<|Kl 11 59 (ot (k:=IntKind.i64) b)<|Kp 1 (Ad 0 e.kind)<|Kn 1 (iz 0 e.kind) (fun b=>Mt (dY b)<|Mt (dY b)<|MV (dY b)<|Ky 1<|rr0 false) fun b=>Kh 0 (c9 b)<|Kh 0 (c9 b)<|M1 (.look<|dU<|FR lZ (e.kind,e.label) d) (hlk d e.kind e.label)<|My (c9 b)<|Mb (FR lZ (e.kind,e.label) d) (fun _=>Kf 0<|cC<|rr0 false) fun _=>K1 1 (.upd (an ql dr (fZ lZ (e.kind,e.label) true d) 0) (fZ lZ (e.kind,e.label) true d).length) (hup d e.kind e.label)<|Kl 0 71 (dq c)<|K1 0 (.frz 2 [1,3,47,48,49]) (cF (tM (fZ lZ (e.kind,e.label) true d).length 2 (by exact bJ MC Bd _ _:aO (an ql dr (fZ lZ (e.kind,e.label) true d) 0)=0)) rt ti)<|Mf<|g (fZ lZ (e.kind,e.label) true d)<|by(rw[hj0,lD];simp only[aS,aj,bS, *];done)) fun _ _=>Kp 1 (xu u.kind)<|Kb 1 (dH (bL u.kind) (ByteArray.mk #[]).data.toList) (fun b=>Mt b<|Mt b<|Mt b<|MV b<|Ky 5<|rr0 false) fun b=>Kh 0 b<|Kh 0 b<|Mp r3<|Mh b<|Kw 0 b<|Kn 0 (gI u.label) (fun b=>Mt (dY b)<|Mt (dY b)<|Mt (dY b)<|MV (dY b)<|Ky 3<|rr0 false) fun b=>Kh 0 (c9 b)<|Kh 0 (c9 b)<|Mp r1<|Mh (c9 b)<|Kw 0 (c9 b)<|Kn 0 (eM u.head) (fun b=>Mt (dY b)<|Mt (dY b)<|Mt (dY b)<|MV (dY b)<|Ky 1<|rr0 false) fun b=>Kh 0 (c9 b)<|Kh 0 (c9 b)<|Mp r2<|Mh (c9 b)<|Kw 0 (c9 b)<|Mn (eM u.words) (fun _=>Ky 0<|rr0 false) fun _=>Kl 4 48 (ln aY u.kids)<|Mg 0<|JY aY u.kids ([]:List ((Int×au)×Bool)) [1,3,47,48,49] (fun b _ c=>([ah 0 0 0 0,AV.map 1,aJ<|u.kids.map aY,nV u.kids.length,nV b],[aZ 8 false 0 [ak (uLx u)],AObj.map (an ql dr c 0) c.length])) (fun b c=>lD u.kind u.kids []=lD u.kind b c) (by rfl) (fun _ _ _ _ _ _ b hj0=>Kh 0 b<|Kl 2 74 (ln aY u.kids)<|Kf 1<|cC<|rr0<|aj<|aL 64<|Int.ofNat u.kids.length) fun b _ c _ _ d e f _ g _ i hj0=>have i:=i.trans<|congrArg some<|aR d;Kt 0 g<|Mx i<|Kp 13 (Ad u.kind d.kind)<|Kn 1 (iz u.kind d.kind) (fun b=>Mt (dY b)<|Mt (dY b)<|MV (dY b)<|Ky 1<|rr0 false) fun g=>Kh 0 (c9 g)<|Kh 0 (c9 g)<|M1 (.look<|dU<|FR lZ (d.kind,d.label) c) (hlk c d.kind d.label)<|My (c9 g)<|Mb (FR lZ (d.kind,d.label) c) (fun _=>Kf 0<|cC<|rr0 false) fun _=>K1 1 (.upd (an ql dr (fZ lZ (d.kind,d.label) true c) 0) (fZ lZ (d.kind,d.label) true c).length) (hup c d.kind d.label)<|Kl 0 71 (dq b)<|K1 0 (.frz 2 [1,3,47,48,49]) (cF (tM (fZ lZ (d.kind,d.label) true c).length 2 (by exact bJ MC Bd _ _:aO (an ql dr (fZ lZ (d.kind,d.label) true c) 0)=0)) rt ti)<|Mf<|f (fZ lZ (d.kind,d.label) true c)<|by(rw[hj0,lD];simp only[aS,aj,bS, *];done)
theorem Kk(u:TUnit)(hl:nU u<2^29):kC 101 [eU u,.func (.func 102) [] [.ptr 0 0 0 0]] (aw [.row 1 false 0 [.nils]])
    (fun v h=>∃y:Nat×Nat×List PId,(y.2.1=y.2.2.length/\y.2.2=de u)/\v=.bool true/\h=aw [sE y.1 y.2.1,N8 y.1 y.2.2]):=by
  have hq:=ju u
  have hkl:=bg u
  exact qS Tryz.func101 fun a=>K1 3 (.frz 1 [1,2,7,8]) (et rt ti)<|Me (YX u)<|Kl 4 13 (ln aY u.kids)<|Mg 0<|TS aY u.kids (0:Nat) (1:Nat) ([am u]:List PId) [1,12,13,14] (fun a _ b c d=>([bx (bz 102) [] [ah 0 0 0 0],aJ<|u.kids.map aY,nV u.kids.length,nV a],[aZ 1 false 0 [bQ 1 b 0 c none],aZ 3 true b<|d.map aX])) (fun a _ b c=>b=c.length/\c++bG a=[am u]++bG u.kids/\c.length+eL a<2^30) gR (fun _ _ b c d _ _ _ e f=>Kh 0 e<|Kf 0<|a (b,c,d)<|by(refine⟨f.1,?_⟩;have:=f.2.1;rw[lF,eF]at this;rw[this,ib];rfl)) fun a _ b c d e f g i j k l _ m _=>have m:=(m).trans<|congrArg some<|aR g;have:=cw (J:=fun a b=>b.2.1=b.2.2.length/\b.2.2++bG a=[am u]++bG u.kids/\b.2.2.length+eL a<2^30) (a:=(b,c,d)) k f;have:=aA e k;have e:d.length+nU g<2^30:=(by grind[bF]);Kt 0 l<|Mx m<|K1 4 (.frz 2 [1,12,13,14,18,19]) (cF (tR 3 true b 2<|aW Bc d) rt ti)<|Mq (OL g b c d oA e) fun b _=>Kl 2 22 (dq a)<|Kf 0<|j b.1 b.2.1 b.2.2<|by grind[bF,dS,vw]
theorem RH(u:TUnit)(hl:nU u<2^29):kP 63 [eU u] (.ls ((de u).map aX)):=by
  have rr0 b' (h:((de u).map aX)=b':=by(rw[hy0.2])):=h;exact b6 Tryz.func63<|Mg 4<|M0 (.ren [1,0] [] [3,4,5])<|M1 (.frz 1 [3,4,5]) (et rt ti)<|Mq (Kk u hl) fun a hy0=>Mg 1<|M2 (.fsl 0 [] 2<|a.2.2.map aX) ti (cF (aV a.1) (tA aX a.2.2 a.2.1 (oA:(a.2.2).length=a.2.1))<|aW Bc a.2.2)<|Ml 2 (fc (a.2.2.map aX) false<|aW Bc a.2.2)<|Mf<|ct<|rr0<|a.2.2.map aX
theorem YZ(u:TUnit)(hl:nU u<2^20):kP 322 [eU u] (.bool (RL u)):=by
  have hb:(de u).length<2^20:=by grind[vw]
  have hi:=RH u (by omega)
  have hlk:∀(m:List (PId×Bool))(a b c:Int),eS (some (.bool false)) false (bw true 3 [(0,1),(1,1),(2,1)] (.agg [iV a,iV b,iV c]) (an aX dr m 0) 0)=some (.bool (FR bh ⟨a,b,c⟩ m)):=fun m a b c=>Hk gK m ⟨a,b,c⟩
  have hup:∀(m:List (PId×Bool))(a b c:Int),qt (an aX dr m 0) m.length (.agg [iV a,iV b,iV c]) (.bool true) (bw true 3 [(0,1),(1,1),(2,1)] (.agg [iV a,iV b,iV c]) (an aX dr m 0) 0)=some (an aX dr (fZ bh ⟨a,b,c⟩ true m) 0,(fZ bh ⟨a,b,c⟩ true m).length):=fun m a b c=>Ly gK m ⟨a,b,c⟩
  have rr0 b' (h:(RL u)=b':=by((try clear gh1);(try clear gh2);(try clear gh3);(try clear gh4);(try clear gh5);(try clear gh6);(try clear gh7);have e:=DA (kenc:=aX) (f:=dr) za0 0;simp only[e,lM]at *;simp only[RL,eD,bh,am,cY,hj0,NR,aS,aj,bS, *];first|done|rfl)):=h;exact b6 Tryz.func322<|Kp 2 hi<|Kl 4 12 (ln aX<|de u)<|Mg 0<|JY aX (de u) ([]:List (PId×Bool)) [1,3,4,11,12,13] (fun d _ g=>([ah 0 0 0 0,aJ<|(de u).map aX,AV.map 1,aJ<|(de u).map aX,nV (de u).length,nV d],[aZ 8 false 0 [ak (uLx u)],AObj.map (an aX dr g 0) g.length])) (fun d g=>CP (de u) []=CP d g) (by rfl) (fun _ _ za0 _ _ _ d hj0=>Kh 0 d<|K1 1 (.look<|dU<|FR bh (PId.mk 0 0 0) za0) (hlk za0 0 0 0)<|Kb 2 (FR bh (PId.mk 0 0 0) za0) (fun d=>Kt 0 d<|Kt 0 d<|Ku 0 d<|Kj 0 (Int.ofNat (an aX dr za0 0).length) 1 (fun d gh2=>Mt d<|Mt d<|Mt d<|Mt d<|Mt d<|Mt d<|MV d<|Ky 0<|rr0 true) fun d gh2=>Kh 0 d<|Kh 0 d<|Kh 0 d<|Kh 0 d<|Kh 0 d<|Kj 0 (Int.ofNat (an aX dr za0 0).length) (Int.ofNat ((de u).map aX).length) (fun g gh3=>Kt 0 g<|Kt 0 g<|Kt 0 g<|Kt 0 g<|Kt 0 g<|Kt 0 g<|Mv (kT ((Tryz.prog).underlying 26) u.act u.item u.n 0 0 0 h0)<|Mt g<|Kh 0 d<|MV g<|My d<|Kf 0<|cC<|rr0<|aa u.kind 0==(aa u.act 0&&(aa u.item 0&&aa u.n 0))) fun g gh3=>Mh g<|Mh g<|Mh g<|Mh g<|Mh g<|Mh g<|Mh g<|Mh d<|My g<|My d<|Ky 0<|rr0 false) fun d=>Mh d<|Mh d<|My d<|Kj 6 (Int.ofNat (an aX dr za0 0).length) (Int.ofNat ((de u).map aX).length) (fun d gh4=>Kt 0 d<|Kt 0 d<|Kt 0 d<|Kt 0 d<|Kt 0 d<|Kt 0 d<|Mv (kT ((Tryz.prog).underlying 26) u.act u.item u.n 0 0 0 h0)<|Mt d<|Ku 0 d<|Kf 1<|cC<|rr0<|aa u.kind 0==(aa u.act 0&&(aa u.item 0&&aa u.n 0))) fun d gh4=>Mh d<|Mh d<|Mh d<|Mh d<|Mh d<|Mh d<|Mh d<|My d<|Ky 1<|rr0 false) fun d _ za0 _ _ g i j _ k _ l hj0=>Kt 0 k<|Mx l<|K1 4 (.upd (an aX dr (fZ bh (PId.mk g.a g.i g.n) true za0) 0) (fZ bh (PId.mk g.a g.i g.n) true za0).length) (hup za0 g.a g.i g.n)<|Kl 0 19 (kf d)<|K1 0 (.frz 2 [1,3,4,11,12,13]) (cF (tM (fZ bh (PId.mk g.a g.i g.n) true za0).length 2 (by exact bJ gK Bd _ _:aO (an aX dr (fZ bh (PId.mk g.a g.i g.n) true za0) 0)=0)) rt ti)<|Mf<|j (fZ bh (PId.mk g.a g.i g.n) true za0)<|by(rw[hj0];rfl)
def sP(x:TUnit):Prop:=x.head.length<=300/\x.words.length<=300/\x.label.length<=2^39/\(∀w,w∈x.head->w.text.length<=2^39)/\∀w,w∈x.words->w.text.length<=2^39
def nj(u:TUnit):Prop:=nU u<=2^19/\∀x,x∈bv u->sP x
theorem IV(u:TUnit)(h:nj u):kP 101 [eU u,.func (.func 321) [] []] (.bool (vP j9 u)):=
  NX 321 j9 u
    (fun x hx=>by
      obtain⟨a,b,c,d,e⟩:=h.2 x hx
      have h1:=bg x
      have h2:=eA hx
      have h3:=h.1
      grind[Tf])
    (by have h1:=bg u;have h3:=h.1;omega)
    (fun x hx=>by
      have h1:=bg x
      have h2:=eA hx
      have h3:=h.1
      omega)
theorem ym(u:TUnit)(h:nj u):kP 288 [eU u] (.bool (ki u)):=by
  have h1:=h.1
  have e1:=IV u h
  have e2:=Ih u (by omega)
  have e3:=Fz u (by omega)
  have e4:=YZ u (by omega)
  have hd:=FY u
  have rr0 b' (h:(ki u)=b':=by(simp only[ki,aS,aj,bS, *];done)):=h;exact b6 Tryz.func288<|Kp 2 e1<|Kb 0 (vP j9 u) (fun a=>Kt 0 a<|Mp e2<|Mt a<|Ku 0 a<|Kn 0 (aL 8<|Int.ofNat<|gd u) (fun a=>Kt 0 (dY a)<|Mp e3<|Mt (dY a)<|Ku 0 (dY a)<|Kn 0 (aL 1024<|Int.ofNat<|nU u) (fun a=>Kt 0 (dY a)<|Mp e4<|MV (dY a)<|Kf 0<|cC<|rr0<|RL u) fun a=>Mh (c9 a)<|My (c9 a)<|Ky 0<|rr0 false) fun a=>Mh (c9 a)<|Mh (c9 a)<|My (c9 a)<|Ky 2<|rr0 false) fun a=>Mh a<|Mh a<|My a<|Ky 4<|rr0 false
theorem sd(l:List PWord)(hl:l.length<2^30):kP 99 [.ls (l.map aQ)] (.ls (l.map aQ)):=by
  cases l with
  |nil=>exact bY.ls0 (S0.less Le.nils) (SS.lessB (u:=.ls []) (by kernel_rfl))
  |cons w r=>grind[S1]
noncomputable abbrev xW:AObj:=.row 8 false 0 [.agg [iV 0,iV 0,iV 0,iV 0,.str [],.nils,.nils,.nils]]
theorem Is:∀(u:TUnit),nU u<=2^20->(∀x,x∈bv u->x.head.length<2^30/\x.words.length<2^30)->kP 59 [eU u] (eU u):=by
  refine TUnit.ind fun u ih hn ht=>?_
  have hkl:=bg u
  have c1:=sd u.head (ht u (cX u)).1
  have c2:=sd u.words (ht u (cX u)).2
  have ihk:∀k,k∈u.kids->kP 59 [eU k] (eU k):=fun k hk=>ih k hk (bu (qz (gv hk)) hn) (fun x hx=>ht x (bj hk hx))
  have rr0 b' (h:(u.kids.map aY)=b':=by first|rfl|(rw[<-hj0];rfl)|(rw[<-hj0.2.2.1,eF])):=h;let q1:=List.map aQ u.words;let q2:=List.map aQ u.head;exact b6 Tryz.func59<|Kp 3 c1<|Kp 1 c2<|Kl 7 16 (ln aY u.kids)<|Mg 0<|ka Nat Nat (List TUnit) aY u.kids [1,2,3,15,16,17] (fun a _=>([ah 0 0 0 0,ah 1 0 0 0,ab,aJ<|u.kids.map aY,nV u.kids.length,nV a],[aZ 8 false 0 [ak (uLx u)],aZ 8 false 0 [ak [iV 0,iV 0,iV 0,iV 0,ax [],ab,ab,ab]]])) (fun a _ b c d=>([ah 0 0 0 0,ah 1 0 0 0,bQ 2 b 0 c none,aJ<|u.kids.map aY,nV u.kids.length,nV a],[aZ 8 false 0 [ak (uLx u)],aZ 8 false 0 [ak [iV 0,iV 0,iV 0,iV 0,ax [],ab,ab,ab]],aZ 8 true b<|d.map aY])) (fun a=>a=u.kids) (fun a _ b c=>b=c.length/\(0:Nat)<c.length/\c++a=u.kids/\c.length+a.length=u.kids.length) (by rfl) (fun _ _ _ _ _ a hj0=>Kh 0 a<|Kl 0 27 bO<|Kf 3 (bV (lc<|lc<|lc<|lc<|lc<|lc<|lc<|.cons (ct<|rr0 []) .nil)<|by kernel_rfl:Le _ (AV.agg [iV u.act,iV u.item,iV u.n,iV u.kind,AV.str u.label,AV.ls q2,AV.ls q1,AV.ls []]))) (fun a _ _ b c d _ e f g _ i _=>have i:=(i).trans<|congrArg some<|aR c;have hj0:=cw (J:=fun a _=>a=u.kids) (a:=()) f b;Kt 0 g<|Mx i<|Kp 4 (ihk c gR)<|K1 1 (.obj 3<|aZ 8 true 0<|List.map aY [c]) (congrArg (aZ 8 true 0)<|VW (f:=aY) (g:=Go.Ev.eU) (ws:=[c]) aR)<|Kl 1 26 (dq a)<|K1 0 (.ren [0,1,3,2] [3] [1,2,3,15,16,17]) (tS 8 true 0<|aW iB [c])<|M1 (.frz 3 [1,2,3,15,16,17]) (kg (tR 8 true 0 3<|aW iB [c]) rt rt ti)<|Mf<|e 0 1 [c]<|by(refine⟨rfl,by simp,?_,?_⟩<;>(rw[<-hj0])<;>(first|rfl|grind))) (fun _ _ a b c _ _ _ d hj0=>let e:=List.map aY c;Kh 0 d<|Mg 0<|M2 (.fsl 2 [1,2] 27 e) (cF rt rt ti) (cF (aV a) (tA aY c b (oA:(c).length=b))<|aW iB c)<|Ml 27 (fc e false<|aW iB c)<|Kf 3 (bV (lc<|lc<|lc<|lc<|lc<|lc<|lc<|.cons (ct<|rr0 e) .nil)<|by kernel_rfl:Le _ (AV.agg [iV u.act,iV u.item,iV u.n,iV u.kind,AV.str u.label,AV.ls q2,AV.ls q1,AV.ls e]))) fun a _ b c d _ e f g _ i j l _ n _=>have n:=(n).trans<|congrArg some<|aR f;have hj0:=cw (J:=fun a b=>b.2.1=b.2.2.length/\(0:Nat)<b.2.2.length/\b.2.2++a=u.kids/\b.2.2.length+a.length=u.kids.length) (a:=(b,c,d)) j e;Kt 0 l<|Mx n<|Kp 4 (ihk f gR)<|K1 0 .app (cF (aV b) (sA:c=(d.map aY).length) (by(refine aF (m:=2^21) ?_ ?_ ?_<;>omega):small (c+1) 120=true))<|M1 (.obj 2<|aZ 8 true (b+1)<|(d++[f]).map aY) (congrArg (aZ 8 true<|b+1)<|yL (f:=aY) (g:=Go.Ev.eU) (l:=d) (ws:=[f]) aR)<|Kl 1 26 (dq a)<|K1 0 (.frz 3 [1,2,3,15,16,17]) (kg (tR 8 true (b+1) 3<|aW iB<|d++[f]) rt rt ti)<|Mf<|i (b+1) (c+1) (d++[f])<|by(refine⟨by simp_all,by simp,?_,?_⟩<;>first|(rw[<-hj0.2.2.1];simp;done)|grind)
theorem Yy(p:PId)(u:TUnit)(h:By (bX p u) true)(hn:nU u<=2^20)(ht:∀x,x∈bv u->x.head.length<2^30/\x.words.length<2^30):kP 21 [eU u,aX p] (.tuple [eU (ch p u),.bool true]):=by
  have hw:=GK p u h hn
  have hlen:=lO (p:=p) u
  have hpos:0<(aE p u).length:=qN.2 (jl h)
  have hm:ch p u∈bv u:=Lv u _ (Sx h)
  have hf:ch p u=gD (aE p u) ((aE p u).length -1):=by unfold ch;simp_all
  have hc:=Is (ch p u) (bu (eA hm) hn) (fun x hx=>ht x (by
    grind[fW]))
  rw[hf]at hc ⊢
  have hz:=Sl hpos
  exact b6 Tryz.func21<|Kp 5 hw<|Kl 2 11 (ln aY<|aE p u)<|Kh 0 hz<|Kl 2 16 (ln aY<|aE p u)<|Kl 0 17 (FP (aE p u).length)<|Mx ((bd aY (oA:(aE p u).length -1<(aE p u).length)).trans<|congrArg some<|aR _)<|Kp 0 hc<|Kf 1<|bo<|bP [ak [iV (gD (aE p u)<|(aE p u).length -1).act,iV (gD (aE p u)<|(aE p u).length -1).item,iV (gD (aE p u)<|(aE p u).length -1).n,iV (gD (aE p u)<|(aE p u).length -1).kind,ax (gD (aE p u)<|(aE p u).length -1).label,aJ<|List.map aQ (gD (aE p u)<|(aE p u).length -1).head,aJ<|List.map aQ (gD (aE p u)<|(aE p u).length -1).words,aJ<|List.map aY (gD (aE p u)<|(aE p u).length -1).kids],dU true]
theorem Yb(p:PId)(u:TUnit)(h:By (bX p u) false)(hn:nU u<=2^20):kP 21 [eU u,aX p] (.tuple [eU bC,.bool false]):=by
  have hw:=Lw p u h hn
  exact b6 Tryz.func21<|Kp 5 hw<|Kf 7 (cb<|.cons (bV (lc<|lc<|lc<|lc<|lc<|.cons bO<|.cons bO<|.cons bO .nil)<|by kernel_rfl)<|lc .nil:Le _ (bP [ak [iV 0,iV 0,iV 0,iV 0,ax [],ab,ab,ab],dU false]))
theorem Sz(p:PId)(u:TUnit)(hn:nU u<=2^20)(ht:∀x,x∈bv u->x.head.length<2^30/\x.words.length<2^30):kP 21 [eU u,aX p] (.tuple [eU (ch p u),.bool (bX p u)]):=by
  cases h:bX p u with
  |true=>grind[Yy]
  | false=>
    have:=Yb p u h hn
    rwa[show bC=ch p u by unfold ch;simp_all]at this
theorem ifW(l:List PWord)(g:Nat)(q:PWord->Bool)(hp:∀k,k∈l->kP g [aQ k] (.bool (q k)))(hl:l.length<2^40):kP 323 [.ls (l.map aQ),.func (.func g) [] []] (iV (eZ q l 0)):=by
  have rr0 b' (h:(eZ q l 0)=b':=by first|exact mO zd0 hr0 hj0 ‹_› |exact hj0):=h;exact b6 Tryz.func323<|Kl 2 7 (ln aQ l)<|Mg 0<|wS aQ l [0,1,7,8] (fun a _=>([aJ<|l.map aQ,bx (bz g) [] [],nV l.length,nV a],[])) (fun a=>eZ q l (0:Nat)=eZ q a (l.length-a.length)) sA (fun _ _ zd0 _ hr0 a hj0=>Kh 0 a<|Kf 0<|li<|rr0 (-1)) fun a _ zd0 _ b c d hr0 e _ f hj0=>Kt 0 e<|Kx 4 f<|Kp 0 (hp b<|by exact aA zd0 hr0)<|Mb (q b) (fun _=>Kf 1<|li<|rr0<|Int.ofNat a) fun _=>Kl 0 18 (dq a)<|Kf 0<|d<|by exact kR zd0 hr0 hj0 (by omega)
theorem cfW(l:List PWord)(g:Nat)(q:PWord->Bool)(hp:∀k,k∈l->kP g [aQ k] (.bool (q k)))(hl:l.length<2^40):kP 291 [.ls (l.map aQ),.func (.func g) [] []] (.bool (l.any q)):=by
  have h:=ifW l g q hp hl
  have rr0 b' (h:(l.any q)=b':=by(rw[mq];simp only[aS,aj,bS,sG])):=h;exact b6 Tryz.func291<|Kp 2 h<|Kf 1<|cC<|rr0<|aj<|aL (eZ q l 0) 0
theorem Dz(w:PWord):kP 290 [aQ w] (.bool (pC w)):=by
  exact b6 Tryz.func290<|Kv 4 (HK ((Tryz.prog).underlying 123) w.act w.item w.at_ 0 0 0<|aw [aZ 4 false 0 [ak [ax w.text,iV w.act,iV w.item,iV w.at_]]])<|Kf 0<|bo<|dU<|aj<|aa w.act 0&&(aa w.item 0&&aa w.at_ 0)
theorem TK(u:TUnit)(h1:u.head.length<2^40)(h2:u.words.length<2^40):kP 289 [eU u] (.bool (DT u)):=by
  have c1:=cfW u.head 290 pC (fun k _=>Dz k) h1
  have c2:=cfW u.words 290 pC (fun k _=>Dz k) h2
  have rr0 b' (h:(DT u)=b':=by(simp only[DT,eD,bh,am,cY,aS,aj,bS, *];first|done|rfl)):=h;exact b6 Tryz.func289<|Kv 5 (kT ((Tryz.prog).underlying 26) u.act u.item u.n 0 0 0<|aw [aZ 8 false 0 [ak (uLx u)]])<|Kb 0 (aa u.act 0&&(aa u.item 0&&aa u.n 0)) (fun a=>Kt 0 a<|Kt 0 a<|Kt 0 a<|Mp c1<|Mt a<|Ku 0 a<|Kn 0 (u.head.any pC) (fun a=>Kt 0 (dY a)<|Kt 0 (dY a)<|Kt 0 (dY a)<|Mp c2<|Mt (dY a)<|Ku 0 (dY a)<|Kf 0<|cC<|rr0<|aj<|u.words.any pC) fun a=>Mh (c9 a)<|Mh (c9 a)<|Mh (c9 a)<|Mh (c9 a)<|My (c9 a)<|Ky 0<|rr0 false) fun a=>Mh a<|Mh a<|Mh a<|Mh a<|My a<|Ky 2<|rr0 false
theorem YR(u:TUnit)(h:nj u):kP 255 [eU u] (.bool (D0 u)):=by
  have e1:=ym u h
  have e2:=NX 289 DT u (fun x hx=>by
      obtain⟨a,b,_⟩:=h.2 x hx
      grind[TK]) (by have h1:=bg u;have h3:=h.1;omega) (fun x hx=>by
      have h1:=bg x
      have h2:=eA hx
      have h3:=h.1
      omega)
  have rr0 b' (h:(D0 u)=b':=by(simp only[D0,aS,aj,bS, *];first|done|rfl)):=h;exact b6 Tryz.func255<|Kp 2 e1<|Kb 0 (ki u) (fun c=>Kt 0 c<|Mp e2<|MV c<|Kf 0<|cC<|rr0<|vP DT u) fun c=>Mh c<|My c<|Ky 0<|rr0 false
theorem OX(p:PId)(u:TUnit)(hh:bX p u=false)(hn:nU u<=2^20):kP 184 [eU u,aX p] (.tuple [aX cY,iV (-1),.bool false]):=by
  have hw:=Lw p u hh hn
  exact b6 Tryz.func184<|Kp 6 hw<|Kf 8<|bo<|bP [ak [iV 0,iV 0,iV 0],iV (-1),dU false]
theorem OZ(p:PId)(u:TUnit)(hh:bX p u=true)(hl:aL (Int.ofNat (aE p u).length) 2=true)(hn:nU u<=2^20):kP 184 [eU u,aX p] (.tuple [aX cY,iV (-1),.bool false]):=by
  have hw:=GK p u hh hn
  exact b6 Tryz.func184<|Kp 6 hw<|Kl 2 14 (ln aY<|aE p u)<|Kt 0 hl<|Kf 3<|bo<|bP [ak [iV 0,iV 0,iV 0],iV (-1),dU false]
theorem QC(p:PId)(u:TUnit)(h:iZ p u=false)(hn:nU u<=2^20):kP 184 [eU u,aX p] (.tuple [aX cY,iV (-1),.bool false]):=by
  grind[OX,OZ,iZ]
theorem QA(p:PId)(u:TUnit)(h:iZ p u=true)(hn:nU u<=2^20):kP 184 [eU u,aX p] (.tuple [aX (rx p u),iV (rj p u),.bool true]):=by
  have hl:aL (Int.ofNat (aE p u).length) 2=false:=by grind[iZ]
  have hl2:2<=(aE p u).length:=by have:=aG hl;grind
  have hh:bX p u=true:=by
    cases e:bX p u with
    |true=>rfl
    |false=>grind[RP]
  have hw:=GK p u hh hn
  have hlen:=lO (p:=p) u
  have hm:Ja p u∈bv u:=Lv u _ (gc (by omega))
  have hkn:∀k,k∈(Ja p u).kids->nU k<=2^20:=fun k hk=>bu (eA (fW hm (yN hk))) hn
  have hkl:(Ja p u).kids.length<2^40:=by have:=bg (Ja p u);have:=eA hm;omega
  have hi:=abq (Ja p u).kids 253 p (bX p) (fun k hk=>by
    grind[bX,OW,OJ]) hkl
  rw[JF h,JG h]
  generalize hG:Ja p u=y at *
  have hG2:gD (aE p u) ((aE p u).length -2)=y:=hG
  have rr0 b' (h:((am y).a)=b':=by(rw[hG2];rfl)):=h;have rr1 b' (h:((am y).i)=b':=by(rw[hG2];rfl)):=h;have rr2 b' (h:((am y).n)=b':=by(rw[hG2];rfl)):=h;exact b6 Tryz.func184<|Kp 6 hw<|Kl 2 14 (ln aY<|aE p u)<|Kh 0 hl<|Kl 2 19 (ln aY<|aE p u)<|Kl 0 20 (cn (x:=Int.ofNat (aE p u).length -(2:Int)) (n:=(aE p u).length -2) fH)<|Mx ((bd aY (oA:(aE p u).length -2<(aE p u).length)).trans<|congrArg some<|aR _)<|Mg 5<|M0 (.ren [2,3,0,1] [] [4,8,24,25])<|M1 (.frz 2 [4,8,24,25]) (cF rt rt ti)<|Mp (bY.onArgs (.cons (ct (by(rw[hG2];done):(y.kids.map aY)=(List.map aY (gD (aE p u) ((aE p u).length -2)).kids)))<|lc .nil) hi:kP 252 [aJ (List.map aY (gD (aE p u) ((aE p u).length -2)).kids),bx (bz 253) [] [AV.pptr [ak [iV p.a,iV p.i,iV p.n]] 0 0]] _)<|Kf 6 (cb<|.cons (bV (.cons (li<|rr0 (gD (aE p u)<|(aE p u).length -2).act)<|.cons (li<|rr1 (gD (aE p u)<|(aE p u).length -2).item)<|.cons (li<|rr2 (gD (aE p u)<|(aE p u).length -2).n) .nil)<|by kernel_rfl)<|lc<|lc .nil:Le _ (bP [ak [iV (gD (aE p u) ((aE p u).length -2)).act,iV (gD (aE p u) ((aE p u).length -2)).item,iV (gD (aE p u) ((aE p u).length -2)).n],iV (eZ (bX p) y.kids 0),dU true]))
theorem QB(p:PId)(u:TUnit)(hn:nU u<=2^20):kP 184 [eU u,aX p] (.tuple [aX (rx p u),iV (rj p u),.bool (iZ p u)]):=by
  grind[iZ,QA,Xn,QE,QC]
theorem aaw(p:PId)(u:TUnit)(h:bX p u=false)(hn:nU u<=2^20):kP 240 [eU u,aX p] (.ls ((pJ p u).map aX)):=by
  have hw:=Lw p u h hn
  have e:pJ p u=[]:=by unfold pJ;rw[uZ h];rfl
  rw[e]
  let q:=[aZ 8 false 0 [ak (uLx u)],aZ 3 false 0 [ak [iV p.a,iV p.i,iV p.n]]];let q1:=[ab,ab,iV (IntKind.i64.wrap (0-2))];exact b6 Tryz.func240<|Kp 5 hw<|Mg 4<|Y3 [5,6,7] (q1,q) True 0 ti fun _ _=>Kf 4 bO
theorem aav(p:PId)(u:TUnit)(h:bX p u=true)(hn:nU u<=2^20):kP 240 [eU u,aX p] (.ls ((pJ p u).map aX)):=by
  have hw:=GK p u h hn
  have hlen:=lO (p:=p) u
  have hpos:0<(aE p u).length:=qN.2 (jl h)
  have hac:=D7 p u
  have rr0 b' (h:((pJ p u).map aX)=b':=by first|rfl|(rw[Tb hx0 ‹_›];rfl)|(rw[Tc hx0.2.1 oA ‹_›])):=h;exact b6 Tryz.func240<|Kp 5 hw<|Kl 0 6 (fc ((aE p u).map aY) false<|aW iB<|aE p u)<|Kl 1 12 (ln aY<|aE p u)<|Kl 0 13 (Le.wr (x:=Int.ofNat (aE p u).length -2) fH)<|K1 0 (.frz 0 [5,6,7]) ti<|TH Int Nat Nat (List PId) (Int.ofNat (aE p u).length -2) [5,6,7] (fun a=>([ab,aJ<|(aE p u).map aY,iV a],[])) (fun a b c d=>([bQ 0 b 0 c none,aJ<|(aE p u).map aY,iV a],[aZ 3 true b<|d.map aX])) (fun a=>a=Int.ofNat (aE p u).length -(2:Int)) (fun a _ b c=>b=c.length/\c=pK p u (a+(1:Int)).toNat/\((-1):Int)<=a/\a+(2:Int)<=↑(aE p u).length/\c.length<=(aE p u).length) (fun a=>(a+1).toNat) (fun a _ _ _=>(a+1).toNat) (by rfl) (fun a hx0 _ b=>have hx0:=hx0;Kd 1 a 0 (fun _ _=>Kl 2 20 (BS (x:=a) oA)<|Mx ((bd aY (gR:a.toNat<(aE p u).length)).trans<|congrArg some<|aR _)<|Kl 6 17 (Le.wr (x:=a-1) fH)<|Kf 0<|b (a-1) 0 1 [PId.mk (gD (aE p u) a.toNat).act (gD (aE p u) a.toNat).item (gD (aE p u) a.toNat).n] (by exact⟨rfl,PK hx0 (by omega),by omega,by grind,by grind⟩) oA) fun _ _=>Kf 1 (Le.lsn<|rr0 []:Le _ (ab))) fun a b c d hx0 _ e=>have hx0:=hx0;Kd 1 a 0 (fun _ _=>Kl 2 20 (BS (x:=a) oA)<|Mx ((bd aY (oA:a.toNat<(aE p u).length)).trans<|congrArg some<|aR _)<|K1 2 .app (cF (aV b) (sA:c=(d.map aX).length) (by(refine aF (m:=2^21) ?_ ?_ ?_<;>omega):small (c+1) 24=true))<|M1 (.obj 0<|aZ 3 true (b+1)<|(d++[PId.mk (gD (aE p u) a.toNat).act (gD (aE p u) a.toNat).item (gD (aE p u) a.toNat).n]).map aX) (congrArg (aZ 3 true<|b+1)<|cT (f:=aX) (l:=d) (ws:=[PId.mk (gD (aE p u) a.toNat).act (gD (aE p u) a.toNat).item (gD (aE p u) a.toNat).n]))<|Kl 2 17 (Le.wr (x:=a-1) fH)<|Kf 0<|e (a-1) (b+1) (c+1) (d++[PId.mk (gD (aE p u) a.toNat).act (gD (aE p u) a.toNat).item (gD (aE p u) a.toNat).n]) (by exact⟨by simp_all,I3 hx0.2.1 hx0.2.2.2.1 (by omega),by omega,by omega,by(have z:=I3 hx0.2.1 hx0.2.2.2.1 (by omega);grind)⟩) oA) fun _ _=>Mg 1<|M2 (.fsl 0 [] 4<|d.map aX) ti (cF (aV b) (tA aX d c (oA:(d).length=c))<|aW Bc d)<|Ml 4 (fc (d.map aX) false<|aW Bc d)<|Mf<|ct<|rr0<|d.map aX
theorem I2(p:PId)(u:TUnit)(hn:nU u<=2^20):kP 240 [eU u,aX p] (.ls ((pJ p u).map aX)):=by
  grind[aav,aaw]
end Go.Proofs.YtdhkhecalpkngaaGreatDoor
