/- Functions walked: what each of them answers, for An item in force that is not a contributor changes neither the presence nor the label, heading and words of the unit: part 1. Conditions: those that each theorem names. -/
import Derived.Test.YtdhkhecalpkngaaGreatDoorCmb
import Derived.Test.YtdhkhecalpkngaaGreatDoorLay
import Derived.Test.YtdhkhecalpkngaaGreatDoorLay2
namespace Go.Proofs.YtdhkhecalpkngaaGreatDoor
open Go Go.Ev
noncomputable abbrev cC:=@Le.bool
noncomputable abbrev aW:=@AV.ls
noncomputable abbrev av:=@AV.agg
noncomputable abbrev ax:=@AV.str
noncomputable abbrev bV:=@AV.func
noncomputable abbrev bK:=@Fn.func
noncomputable abbrev fw:=@Le.ps
noncomputable abbrev lw:=@AV.ps
noncomputable abbrev bx:=@Le.refl
noncomputable abbrev ez:=@AV.bool
noncomputable abbrev cp:=@Le.tuple
noncomputable abbrev b8:=@AV.tuple
noncomputable abbrev ak:=@AV.nils
noncomputable abbrev aZ:=@AObj.row
noncomputable abbrev fk:=@Le.of_eq
noncomputable abbrev bX:=@AV.ptr
noncomputable abbrev aH:=@AV.slice
noncomputable abbrev bA:=@Le.nils
noncomputable abbrev aao:=@ARes.val
noncomputable def qj(x:PWord):Bool:=aj (au 100 (.ofNat x.text.length))
noncomputable def mL(ws:List PWord):Bool:=ws.all qj&&aj (au 300 (.ofNat ws.length))
theorem GA(x:Int):kP 155 [iV x] (.bool false):=by
  have rr0 b' (h:(false)=b':=by simp[bz]):=h;exact wk Tryz.func155 (.go 4 .fin)<|cC<|rr0<|aj<|ab x x
theorem jB(x y:Int):kP 120 [iV x,iV y] (iV (gm x y)):=by
  have rr0 b' (h:(gm x y)=b':=by simp[gm, *]):=h;exact bB Tryz.func120<|Kp 1 (GA x)<|Kp 1 (GA y)<|Kb 7 (au x y) (fun _=>Kf 0<|li<|rr0 (-1)) fun _=>Kb 2 (au y x) (fun _=>Kf 0<|li<|rr0 1) fun _=>Kf 0<|li<|rr0 0
theorem FE(ws:List PWord)(hl:ws.length<2^60):kP 220 [.ls (ws.map aQ)] (.bool (mL ws)):=by
  have rr0 b' (h:(mL ws)=b':=by simp only[mL,qj,aS,aj,bS, *]):=h;exact bB Tryz.func220<|Mg 1<|vZ aQ ws [0,3] (fun a _=>([aW<|ws.map aQ,nV a],[])) (fun a=>ws.all qj=a.all qj) (by rfl) (fun _ _ _ _ _ a _=>Kl 2 6 (ln aQ ws)<|Kh 0 a<|Kl 1 18 (ln aQ ws)<|Kf 1<|cC<|rr0<|aj<|au 300<|Int.ofNat ws.length) fun a _ _ _ b c d _ e _ f _=>Kl 2 6 (ln aQ ws)<|Kt 0 e<|Kx 1 f<|Ka 3 100 (Int.ofNat<|List.length b.text) (fun _ _=>Ky 0<|rr0 false) fun _ _=>Kl 1 9 (dB a)<|Kf 0<|d<|by simp_all[qj]
mutual
noncomputable def kI:TUnit->Bool
  |⟨_,_,_,_,label,h,w,kids⟩=>aj (au 30 (.ofNat label.length))&&mL h&&mL w&&ym kids
noncomputable def ym:List TUnit->Bool
  |[]=>true
  |u::r=>kI u&&ym r
end
theorem B0:∀(l:List TUnit),ym l=l.all kI
  |[]=>by rw[ym];rfl
  |u::r=>by rw[ym,B0 r];rfl
theorem B6(u:TUnit):kI u=(aj (au 30 (.ofNat u.label.length))&&mL u.head&&mL u.words&&u.kids.all kI):=by
  obtain⟨a,b,c,d,e,f,g,h⟩:=u
  rw[kI,B0];rfl
theorem OT:∀(u:TUnit),sS u->kP 148 [eU u] (.bool (kI u)):=by
  refine TUnit.ind fun u ih hf=>?_
  obtain⟨f1,f2,f3,f4⟩:=qE.1 hf
  have rr0 b' (h:(kI u)=b':=by rw[B6];simp only[aS,aj,bS, *]):=h;exact bB Tryz.func148<|Ka 6 30 (Int.ofNat<|List.length u.label) (fun a _=>Mt a<|Mt a<|Mt a<|MV a<|Ky 3<|rr0 false) fun a _=>Kh 0 a<|Kh 0 a<|Mp (FE u.head f1)<|Mh a<|Kw 0 a<|Kn 0 (mL u.head) (fun a=>Mt (cM a)<|Mt (cM a)<|Mt (cM a)<|MV (cM a)<|Ky 1<|rr0 false) fun a=>Kh 0 (ca a)<|Kh 0 (ca a)<|Mp (FE u.words f2)<|Mh (ca a)<|Kw 0 (ca a)<|Mn (mL u.words) (fun _=>Ky 0<|rr0 false) fun _=>K1 0 (.frz 0 [1,3]) ti<|vZ aU u.kids [1,3] (fun a _=>([AV.pptr [av [iV u.act,iV u.item,iV u.n,iV u.kind,ax u.label,aW<|u.head.map aQ,aW<|u.words.map aQ,aW<|u.kids.map aU]] 0 0,nV a],[])) (fun a=>u.kids.all kI=a.all kI) (by rfl) (fun _ _ _ _ _ a _=>Kl 3 23 (ln aU u.kids)<|Kh 0 a<|Ky 0<|rr0 true) fun a _ b _ c d e f g _ i _=>have i:=i.trans<|congrArg some<|aO c;Kl 3 23 (ln aU u.kids)<|Kt 0 g<|Kx 2 i<|Kp 0 (ih c (by exact aN b f)<|by exact f4 _ (aN b f))<|Kn 0 (kI c) (fun _=>Kf 0<|cC<|rr0 false) fun _=>Kl 1 26 (dB a)<|Kf 0<|e sA
mutual
noncomputable def mH:TUnit->Int->Int->Int
  |⟨_,_,_,_,_,_,_,kids⟩,deep,most=>match au 20 deep with|true=>most+1|false=>mI kids deep most 1
noncomputable def mI:List TUnit->Int->Int->Int->Int
  |[],_,_,n=>n
  |k::r,deep,most,n=>match au most n with|true=>n|false=>mI r deep most (n+mH k (deep+1) (most-n))
end
theorem Pi(u:TUnit)(deep most:Int):mH u deep most=match au 20 deep with|true=>most+1|false=>mI u.kids deep most 1:=by
  obtain⟨a,b,c,d,e,f,g,h⟩:=u;rw[mH];rfl
mutual
theorem FC:∀(u:TUnit)(deep most:Int),0<=most->1<=mH u deep most/\mH u deep most<=most+1
  | ⟨_,_,_,_,_,_,_,kids⟩,deep,most,h=>by
    rw[mH]
    split
    · omega
    · exact FD kids deep most 1 (by omega) (by omega)
theorem FD:∀(l:List TUnit)(deep most n:Int),1<=n->n<=most+1->1<=mI l deep most n/\mI l deep most n<=most+1
  |[],_,_,n,h1,h2=>by grind[mI]
  | k::r,deep,most,n,h1,h2=>by
    rw[mI]
    split
    · omega
    · rename_i h
      have:=aB h
      have:=FC k (deep+1) (most-n) (by omega)
      exact FD r deep most _ (by omega) (by omega)
end
theorem TY:∀(u:TUnit),sS u->∀(deep most:Int),0<=deep->deep<=21->0<=most->most<=2^20->kP 147 [eU u,iV deep,iV most] (iV (mH u deep most)):=by
  refine TUnit.ind fun u ih hf deep most d1 d2 m1 m2=>?_
  obtain⟨f1,f2,f3,f4⟩:=qE.1 hf
  have rr0 b' (h:(mH u deep most)=b':=by rw[Pi];simp only[mI,aS,aj,bS, *]):=h;exact bB Tryz.func147<|Ka 3 20 deep (fun _ _=>Kl 1 12 (Le.wr (x:=most+1) fy)<|Kf 0<|li<|rr0<|most+1) fun _ _=>K1 1 (.frz 0 [1,2,3,7,8]) ti<|OM aU u.kids (1:Int) [1,2,3,7,8] (fun a _ b=>([iV deep,iV most,AV.pptr [av [iV u.act,iV u.item,iV u.n,iV u.kind,ax u.label,aW<|u.head.map aQ,aW<|u.words.map aQ,aW<|u.kids.map aU]] 0 0,iV b,nV a],[])) (fun a b=>(1:Int)<=b/\b<=most+(1:Int)/\mI u.kids deep most (1:Int)=mI a deep most b) oA (fun _ _ a _ _ _ b _=>Kl 3 16 (ln aU u.kids)<|Kh 1 b<|Mh b<|Mh b<|My b<|Kf 2<|li<|rr0 a) fun a _ b c _ d e f g i _ j _=>have j:=j.trans<|congrArg some<|aO d;Kl 3 16 (ln aU u.kids)<|Kt 1 i<|Kt 0 i<|Kt 0 i<|Ku 0 i<|Mn (au most b) (fun i=>have:=aB i;Kx 3 j<|Kl 2 32 (Le.wr (x:=deep+1) fy)<|Kl 2 35 (Le.wr (x:=most-b) fy)<|Mp (ih d (by exact aN c g) (by exact f4 _ (aN c g)) (deep+1) (most-b) oA oA oA oA)<|have:=FC d (deep+1) (most-b) oA;Kl 0 37 (Le.wr (x:=b+mH d (deep+1) (most-b)) fy)<|Kl 2 24 (dB a)<|Kf 0<|f (b+mH d (deep+1) (most-b))<|by(refine⟨by omega,by omega,?_⟩;first|rfl|grind[mI])) fun a=>have:=ap a;Kf 1<|li<|rr0 b
noncomputable def Hx(u:TUnit)(most:Int):Bool:=aj (au most (mH u 0 most))&&kI u
theorem UE(u:TUnit)(most:Int)(hf:sS u)(m1:0<=most)(m2:most<=2^20):kP 100 [eU u,iV most] (.bool (Hx u most)):=by
  have rr0 b' (h:(Hx u most)=b':=by simp only[Hx,aS,aj,bS, *]):=h;exact bB Tryz.func100<|Kp 3 (TY u hf 0 most oA oA m1 m2)<|Kn 2 (au most<|mH u 0 most) (fun a=>Kt 0 (cM a)<|Mp (OT u hf)<|MV (cM a)<|Kf 0<|cC<|rr0<|kI u) fun a=>Mh (ca a)<|My (ca a)<|Ky 0<|rr0 false
noncomputable def xl(s:aP):Bool:=aj (au 100 (.ofNat s.length))
noncomputable def xi(s:PStep):Bool:=aj (au 100 (.ofNat s.label.length))
noncomputable def yJ(x:PItem):Bool:=
  aj (au 12 (.ofNat x.at_.length))&&aj (au 12 (.ofNat x.to.length))&&aj (au 300 (.ofNat x.old.length))&&aj (au 300 (.ofNat x.new.length))&&aj (au 100 (.ofNat x.label.length))&&aj (au 100 (.ofNat x.for_.length))
  &&aj (au 100 (.ofNat x.start.event.length))&&aj (au 100 (.ofNat x.event.length))&&aj (au 2 (.ofNat x.by_.length))&&Hx x.unit 30
noncomputable def HC(y:PItem):Bool:=au 0 (.ofNat y.by_.length)&&au 0 (.ofNat (gD y.by_ 0).by_.length)
mutual
noncomputable def m9:PItem->Bool
  |⟨k,a,t,w,nn,u,o,n,lb,fo,st,ac,it,dy,ev,by_⟩=>yJ ⟨k,a,t,w,nn,u,o,n,lb,fo,st,ac,it,dy,ev,by_⟩&&(o.all xl&&(n.all xl&&(a.all xi&&(t.all xi&&Hk by_))))
noncomputable def Hk:List PItem->Bool
  |[]=>true
  |u::r=>(aj (HC u)&&m9 u)&&Hk r
end
noncomputable def H0(y:PItem):Bool:=aj (HC y)&&m9 y
theorem Hj:∀(l:List PItem),Hk l=l.all H0
  |[]=>by rw[Hk];rfl
  |u::r=>by rw[Hk,Hj r];rfl
theorem Ey(x:PItem):m9 x=(yJ x&&(x.old.all xl&&(x.new.all xl&&(x.at_.all xi&&(x.to.all xi&&x.by_.all H0))))):=by
  obtain⟨k,a,t,w,nn,u,o,n,lb,fo,st,ac,it,dy,ev,by_⟩:=x
  rw[m9,Hj];rfl
theorem UG:∀(x:PItem),nc x->kP 61 [eI x] (.bool (m9 x)):=by
  refine PItem.ind fun x ih hf=>?_
  obtain⟨f1,f2,f3,f4,f5,f6,f7⟩:=qF.1 hf
  have hu:kP 100 [eU x.unit,iV 30] (.bool (Hx x.unit 30)):=UE x.unit 30 f6 (by omega) (by omega)
  have rr0 b' (h:(m9 x)=b':=by rw[Ey,yJ];simp only[H0,HC,xl,xi,aS,aj,bS, *]):=h;exact bB Tryz.func61<|Kl 4 10 (ln az x.at_)<|Ka 1 12 (Int.ofNat x.at_.length) (fun a _=>Mt a<|Mt a<|Mt a<|MV a<|Ky 17<|rr0 false) fun a _=>Kh 0 a<|Kh 0 a<|Kl 0 15 (ln az x.to)<|Mh a<|Kw 0 a<|Ka 0 12 (Int.ofNat x.to.length) (fun a _=>Mt a<|Mt a<|Mt a<|MV a<|Ky 15<|rr0 false) fun a _=>Kh 0 a<|Kh 0 a<|Kl 0 21 (ln nW x.old)<|Mh a<|Kw 0 a<|Ka 0 300 (Int.ofNat x.old.length) (fun a _=>Mt a<|Mt a<|Mt a<|MV a<|Ky 13<|rr0 false) fun a _=>Kh 0 a<|Kh 0 a<|Kl 0 27 (ln nW x.new)<|Mh a<|Kw 0 a<|Ka 0 300 (Int.ofNat x.new.length) (fun a _=>Mt a<|Mt a<|Mt a<|MV a<|Ky 11<|rr0 false) fun a _=>Kh 0 a<|Kh 0 a<|Kh 0 a<|Kw 0 a<|Ka 0 100 (Int.ofNat<|List.length x.label) (fun a _=>Mt a<|Mt a<|Mt a<|MV a<|Ky 9<|rr0 false) fun a _=>Kh 0 a<|Kh 0 a<|Kh 0 a<|Kw 0 a<|Ka 0 100 (Int.ofNat<|List.length x.for_) (fun a _=>Mt a<|Mt a<|Mt a<|Mt a<|MV a<|Ky 7<|rr0 false) fun a _=>Kh 0 a<|Kh 0 a<|Kh 0 a<|Kh 0 a<|Kw 0 a<|Ka 0 100 (Int.ofNat<|List.length x.start.event) (fun a _=>Mt a<|Mt a<|Mt a<|MV a<|Ky 5<|rr0 false) fun a _=>Kh 0 a<|Kh 0 a<|Kh 0 a<|Kw 0 a<|Ka 0 100 (Int.ofNat<|List.length x.event) (fun a _=>Mt a<|Mt a<|Mt a<|MV a<|Ky 3<|rr0 false) fun a _=>Kh 0 a<|Kh 0 a<|Kl 0 58 (ln OW x.by_)<|Mh a<|Kw 0 a<|Ka 0 2 (Int.ofNat x.by_.length) (fun a _=>Mt a<|Mt a<|Mt a<|MV a<|Ky 1<|rr0 false) fun a _=>Kh 0 a<|Kh 0 a<|Mp hu<|Mh a<|Kw 0 a<|Mn (Hx x.unit 30) (fun _=>Ky 0<|rr0 false) fun _=>K1 0 (.frz 0 [1,3]) ti<|vZ nW x.old [1,3] (fun a _=>([AV.pptr [av [iV x.kind,aW<|x.at_.map az,aW<|x.to.map az,iV x.where_,iV x.nth_,iV x.unit.act,iV x.unit.item,iV x.unit.n,iV x.unit.kind,ax x.unit.label,aW<|x.unit.head.map aQ,aW<|x.unit.words.map aQ,aW<|x.unit.kids.map aU,aW<|x.old.map nW,aW<|x.new.map nW,ax x.label,ax x.for_,iV x.start.kind,iV x.start.day,ax x.start.event,iV x.act,iV x.item,iV x.day,ax x.event,aW<|x.by_.map OW]] 0 0,nV a],[])) (fun a=>x.old.all xl=a.all xl) (by rfl) (fun _ _ _ _ _ a _=>Kl 3 70 (ln nW x.old)<|Kh 0 a<|Mg 0<|vZ nW x.new [1,4] (fun a _=>([AV.pptr [av [iV x.kind,aW<|x.at_.map az,aW<|x.to.map az,iV x.where_,iV x.nth_,iV x.unit.act,iV x.unit.item,iV x.unit.n,iV x.unit.kind,ax x.unit.label,aW<|x.unit.head.map aQ,aW<|x.unit.words.map aQ,aW<|x.unit.kids.map aU,aW<|x.old.map nW,aW<|x.new.map nW,ax x.label,ax x.for_,iV x.start.kind,iV x.start.day,ax x.start.event,iV x.act,iV x.item,iV x.day,ax x.event,aW<|x.by_.map OW]] 0 0,nV a],[])) (fun a=>x.new.all xl=a.all xl) (by rfl) (fun _ _ _ _ _ a _=>Kl 3 84 (ln nW x.new)<|Kh 0 a<|Mg 0<|vZ az x.at_ [1,5] (fun a _=>([AV.pptr [av [iV x.kind,aW<|x.at_.map az,aW<|x.to.map az,iV x.where_,iV x.nth_,iV x.unit.act,iV x.unit.item,iV x.unit.n,iV x.unit.kind,ax x.unit.label,aW<|x.unit.head.map aQ,aW<|x.unit.words.map aQ,aW<|x.unit.kids.map aU,aW<|x.old.map nW,aW<|x.new.map nW,ax x.label,ax x.for_,iV x.start.kind,iV x.start.day,ax x.start.event,iV x.act,iV x.item,iV x.day,ax x.event,aW<|x.by_.map OW]] 0 0,nV a],[])) (fun a=>x.at_.all xi=a.all xi) (by rfl) (fun _ _ _ _ _ a _=>Kl 3 98 (ln az x.at_)<|Kh 0 a<|Mg 0<|vZ az x.to [1,6] (fun a _=>([AV.pptr [av [iV x.kind,aW<|x.at_.map az,aW<|x.to.map az,iV x.where_,iV x.nth_,iV x.unit.act,iV x.unit.item,iV x.unit.n,iV x.unit.kind,ax x.unit.label,aW<|x.unit.head.map aQ,aW<|x.unit.words.map aQ,aW<|x.unit.kids.map aU,aW<|x.old.map nW,aW<|x.new.map nW,ax x.label,ax x.for_,iV x.start.kind,iV x.start.day,ax x.start.event,iV x.act,iV x.item,iV x.day,ax x.event,aW<|x.by_.map OW]] 0 0,nV a],[])) (fun a=>x.to.all xi=a.all xi) (by rfl) (fun _ _ _ _ _ a _=>Kl 3 113 (ln az x.to)<|Kh 0 a<|Mg 0<|vZ OW x.by_ [1,7] (fun a _=>([AV.pptr [av [iV x.kind,aW<|x.at_.map az,aW<|x.to.map az,iV x.where_,iV x.nth_,iV x.unit.act,iV x.unit.item,iV x.unit.n,iV x.unit.kind,ax x.unit.label,aW<|x.unit.head.map aQ,aW<|x.unit.words.map aQ,aW<|x.unit.kids.map aU,aW<|x.old.map nW,aW<|x.new.map nW,ax x.label,ax x.for_,iV x.start.kind,iV x.start.day,ax x.start.event,iV x.act,iV x.item,iV x.day,ax x.event,aW<|x.by_.map OW]] 0 0,nV a],[])) (fun a=>x.by_.all H0=a.all H0) (by rfl) (fun _ _ _ _ _ a _=>Kl 3 128 (ln OW x.by_)<|Kh 0 a<|Ky 0<|rr0 true) fun a _ b _ c d e f g _ i _=>have i:=i.trans<|congrArg some<|eY c;Kl 3 128 (ln OW x.by_)<|Kt 0 g<|Kx 2 i<|Kl 2 138 (ln OW c.by_)<|Ka 1 0 (Int.ofNat c.by_.length) (fun g _=>Kt 0 g<|Kt 0 g<|Kt 0 g<|Mx i<|Mt g<|Kt 0 g<|Kt 0 g<|Mx ((bQ OW (sA:0<(c.by_).length)).trans<|congrArg some<|eY _)<|Mt g<|Kt 0 g<|Kt 0 g<|Kl 0 150 (ln OW (gD c.by_ 0).by_)<|Mt g<|Ku 0 g<|Ka 0 0 (Int.ofNat (gD c.by_ 0).by_.length) (fun a _=>Mt a<|Mt a<|Mt a<|Mt a<|Mt a<|Mt a<|MV a<|Ky 1<|rr0 false) fun g _=>Kh 0 g<|Kh 0 g<|Kh 0 g<|Mx i<|Mh g<|Kh 0 g<|Mp (ih c (by exact aN b f)<|by exact f7 _ (aN b f))<|Mh g<|Kw 0 g<|Mn (m9 c) (fun _=>Kf 0<|cC<|rr0 false) fun _=>Kl 1 131 (dB a)<|Kf 0<|e<|by simp_all[H0,HC]) fun g _=>Mh g<|Mh g<|Mh g<|Mh g<|Mh g<|Mh g<|Mh g<|Mh g<|Mh g<|Mh g<|My g<|Kx 3 i<|Kp 0 (ih c (by exact aN b f)<|by exact f7 _ (aN b f))<|Kn 1 (m9 c) (fun _=>Kf 0<|cC<|rr0 false) fun _=>Kl 1 131 (dB a)<|Kf 0<|e<|by simp_all[H0,HC]) fun a _ _ _ b c d _ e _ f _=>Kl 3 113 (ln az x.to)<|Kt 0 e<|Kx 2 f<|Ka 3 100 (Int.ofNat<|List.length b.label) (fun _ _=>Ky 0<|rr0 false) fun _ _=>Kl 1 116 (dB a)<|Kf 0<|d<|by simp_all[xi]) fun a _ _ _ b c d _ e _ f _=>Kl 3 98 (ln az x.at_)<|Kt 0 e<|Kx 2 f<|Ka 3 100 (Int.ofNat<|List.length b.label) (fun _ _=>Ky 0<|rr0 false) fun _ _=>Kl 1 101 (dB a)<|Kf 0<|d<|by simp_all[xi]) fun a _ _ _ b c d _ e _ f _=>Kl 3 84 (ln nW x.new)<|Kt 0 e<|Kx 2 f<|Ka 2 100 (Int.ofNat<|List.length b) (fun _ _=>Ky 0<|rr0 false) fun _ _=>Kl 1 87 (dB a)<|Kf 0<|d<|by simp_all[xl]) fun a _ _ _ b c d _ e _ f _=>Kl 3 70 (ln nW x.old)<|Kt 0 e<|Kx 2 f<|Ka 2 100 (Int.ofNat<|List.length b) (fun _ _=>Ky 0<|rr0 false) fun _ _=>Kl 1 73 (dB a)<|Kf 0<|d<|by simp_all[xl]
noncomputable def BJ(most n:Int)(a:PAct):Bool:=au most (n+Int.ofNat a.items.length)||(au 100 (Int.ofNat a.title.length)||(au 60 (Int.ofNat a.start.event.length)||aj (a.items.all m9)))
noncomputable def mU(most:Int):List PAct->Int->Option Int
  |[],n=>some n
  |a::r,n=>match BJ most n a with|true=>none|false=>mU most r (n+Int.ofNat a.items.length)
noncomputable def vH(g:PGaz):Bool:=au 8 (Int.ofNat g.acts.length)||au 60 (Int.ofNat g.prior.length)
noncomputable def uc(most:Int):List PGaz->Int->Bool
  |[],_=>true
  |g::r,n=>match vH g with|true=>false|false=>match mU most g.acts n with|none=>false|some m=>uc most r m
noncomputable def N4(gs:List PGaz)(most:Int):Bool:=match au 8 (Int.ofNat gs.length)with|true=>false|false=>uc most gs 0
theorem UH(gs:List PGaz)(most:Int)(hf:pH gs)(m1:0<=most)(m2:most<=2^20):kP 24 [.ls (gs.map aA),iV most] (.bool (N4 gs most)):=by
  obtain⟨f0,f1⟩:=hf
  have fa:∀g,g∈gs->∀a,a∈g.acts->a.items.length<2^60:=fun g hg a ha=>((f1 g hg).2 a ha).1
  have fb:∀g,g∈gs->g.acts.length<2^60:=fun g hg=>(f1 g hg).1
  have rr0 b' (h:(N4 gs most)=b':=by simp only[N4,uc,vH,mU,BJ,aS,aj,bS, *]):=h;exact bB Tryz.func24<|Kl 2 11 (ln aA gs)<|Ka 0 8 (Int.ofNat gs.length) (fun _ _=>Ky 0<|rr0 false) fun _ _=>Mg 1<|OM aA gs (0:Int) [0,1,5,6] (fun b _ c=>([aW<|gs.map aA,iV most,iV c,nV b],[])) (fun b c=>(0:Int)<=c/\c<=most/\uc most gs (0:Int)=uc most b c) (by(refine⟨by omega,by omega,?_⟩;first|rfl|(simp only[uc,vH,mU,aS,aj,bS, *]))) (fun _ _ _ _ _ _ b _=>Kl 2 15 (ln aA gs)<|Kh 0 b<|Ky 0<|rr0 true) fun b _ c d _ e f i j k _ l m=>Kl 2 15 (ln aA gs)<|Kt 0 k<|Kx 1 l<|Kl 2 24 (ln ay e.acts)<|Ka 1 8 (Int.ofNat e.acts.length) (fun b _=>Mt b<|Mt b<|Mt b<|Mt b<|Mt b<|Mt b<|MV b<|Ky 1<|rr0 false) fun k _=>Kh 0 k<|Kh 0 k<|Mx l<|Mh k<|Kh 0 k<|Kh 0 k<|Kh 0 k<|Kw 0 k<|Mb (au 60<|Int.ofNat<|List.length e.prior) (fun b=>have:=ap b;Ky 0<|rr0 false) fun k=>have:=aB k;Mg 0<|OM ay e.acts c [0,1,5,6,7] (fun c _ d=>([aW<|gs.map aA,iV most,iV d,nV b,nV c],[])) (fun b d=>(0:Int)<=d/\d<=most/\mU most e.acts c=mU most b d) (by(exact⟨m.1,m.2.1,rfl⟩)) (fun _ _ c _ _ _ d _=>Kx 2 l<|Kl 2 41 (ln ay e.acts)<|Kh 0 d<|Kl 1 18 (dB b)<|Kf 0<|i c<|by(refine⟨by omega,by omega,?_⟩;first|rfl|(simp only[uc,vH,mU,aS,aj,bS, *]))) fun f _ i k _ m n o p q _ r _=>have:=fa e (aN d j) m<|aN k p;have:=fb e<|aN d j;Kx 2 l<|Kl 2 41 (ln ay e.acts)<|Kt 0 q<|Kx 1 l<|Kx 2 r<|Kl 6 56 (ln OW m.items)<|Kl 0 57 (Le.wr (x:=i+Int.ofNat m.items.length) fy)<|Ka 4 most (i+Int.ofNat m.items.length) (fun b _=>Mt b<|Mt b<|Mt b<|MV b<|Ky 3<|rr0 false) fun l _=>Kh 0 l<|Kh 0 l<|Kh 0 l<|Kw 0 l<|Ka 0 100 (Int.ofNat<|List.length m.title) (fun b _=>Mt b<|Mt b<|Mt b<|Mt b<|MV b<|Ky 1<|rr0 false) fun l _=>Kh 0 l<|Kh 0 l<|Kh 0 l<|Kh 0 l<|Kw 0 l<|Mb (au 60<|Int.ofNat<|List.length m.start.event) (fun b=>have:=ap b;Ky 0<|rr0 false) fun l=>have:=aB l;K1 0 (.frz 0 [0,1,5,6,7,8,9]) ti<|vZ OW m.items [0,1,5,6,7,8,9] (fun c _=>([aW<|gs.map aA,iV most,iV<|i+Int.ofNat m.items.length,nV b,nV f,AV.pptr [av [iV m.number,ax m.title,iV m.day,iV m.start.kind,iV m.start.day,ax m.start.event,aW<|m.items.map OW]] 0 0,nV c],[])) (fun b=>m.items.all m9=b.all m9) (by rfl) (fun _ _ _ _ _ b _=>Kl 3 77 (ln OW m.items)<|Kh 0 b<|Kl 1 44 (dB f)<|Kf 0<|o (i+Int.ofNat m.items.length)<|by(refine⟨by(simp only[oN]at *;omega),by assumption,?_⟩;simp only[mU,BJ,aS,aj,bS, *])) fun b _ c _ e f i l n _ o _=>have o:=o.trans<|congrArg some<|eY e;Kl 3 77 (ln OW m.items)<|Kt 0 n<|Kx 2 o<|Kp 0 (UG e<|by first|exact((f1 _ (aN d j)).2 _ (aN k p)).2 _ (aN c l))<|Kn 0 (m9 e) (fun _=>Kf 0<|cC<|rr0 false) fun _=>Kl 1 80 (dB b)<|Kf 0<|i<|by simp only[aS,aj,bS, *]at *
noncomputable def N3(gs:List PGaz)(p:aP):Bool:=N4 gs 24&&aj (au 60 (Int.ofNat p.length))
theorem UF(gs:List PGaz)(p:aP)(hf:pH gs):kP 18 [.ls (gs.map aA),.str p] (.bool (N3 gs p)):=by
  have rr0 b' (h:(N3 gs p)=b':=by simp only[N3,aS,aj,bS, *]):=h;exact bB Tryz.func18<|Kp 1 (UH gs 24 hf oA oA)<|Kb 0 (N4 gs 24) (fun a=>Kt 0 a<|Kt 0 a<|Ku 0 a<|Kf 0<|cC<|rr0<|aj<|au 60<|Int.ofNat<|List.length p) fun a=>Mh a<|Mh a<|My a<|Ky 0<|rr0 false
theorem ifB(l:aP)(g:Nat)(p:UInt8->Bool)(hp:∀s,s∈l->kP g [.int .u8 (.ofNat s.toNat)] (.bool (p s)))(hl:l.length<2^40):kP 339 [.ls (l.map nI),.func (.func g) [] []] (iV (dn p l 0)):=by
  have rr0 b' (h:(dn p l 0)=b':=by first|exact md zd0 hr0 hj0 ‹_› |exact hj0):=h;exact bB Tryz.func339<|Kl 2 7 (ln nI l)<|Mg 0<|vZ nI l [0,1,7,8] (fun a _=>([aW<|l.map nI,bV (bK g) [] [],nV<|List.length l,nV a],[])) (fun a=>dn p l (0:Nat)=dn p a (List.length l-a.length)) sA (fun _ _ zd0 _ hr0 a hj0=>Kh 0 a<|Kf 0<|li<|rr0 (-1)) fun a _ zd0 _ b c d hr0 e _ f hj0=>Kt 0 e<|Kx 4 f<|Kp 0 (hp b<|by exact aN zd0 hr0)<|Mb (p b) (fun _=>Kf 1<|li<|rr0<|Int.ofNat a) fun _=>Kl 0 18 (dB a)<|Kf 0<|d<|by exact kj zd0 hr0 hj0 (by omega)
theorem cfB(l:aP)(g:Nat)(p:UInt8->Bool)(hp:∀s,s∈l->kP g [.int .u8 (.ofNat s.toNat)] (.bool (p s)))(hl:l.length<2^40):kP 326 [.ls (l.map nI),.func (.func g) [] []] (.bool (l.any p)):=by
  have h:=ifB l g p hp hl
  have rr0 b' (h:(List.any l p)=b':=by(rw[lu];simp only[aS,aj,bS,nM])):=h;exact bB Tryz.func326<|Kp 2 h<|Kf 1<|cC<|rr0<|aj<|au (dn p l 0) 0
theorem O0(c:UInt8):kP 325 [.int .u8 (.ofNat c.toNat)] (.bool (aj (QO 33 126 c))):=by
  have rr0 b' (h:(aj (QO 33 126 c))=b':=by(simp only[QO,aS,aj,bS,nM, *])):=h;exact bB Tryz.func325<|Kb 3 (au (Int.ofNat c.toNat) 33) (fun a=>Mt a<|MV a<|Ky 0<|rr0 true) fun a=>Kh 0 a<|Kw 0 a<|Kf 0<|cC<|rr0<|au 126<|Int.ofNat c.toNat
theorem SO(s:aP)(hs:s.length<=2^39):kP 294 [.str s] (.bool (rP s)):=by
  have h:=cfB s 325 _ (fun c _=>O0 c) (by omega)
  have rr0 b' (h:(rP s)=b':=by first|(simp only[rP,aS,aj,bS, *];done)|(rw[rP,RD,List.all_eq_not_any_not];simp only[EQ,aS,aj,bS, *]at *)):=h;let q:=List.map nI s;exact bB Tryz.func294<|Kn 4 (dP s (ByteArray.mk #[]).data.toList) (fun a=>Kt 0 (cM a)<|Kt 0 (cM a)<|Ku 0 (cM a)<|Kn 0 (au 24<|Int.ofNat<|List.length s) (fun a=>Kt 0 (cM a)<|Mv (U9 (s:=s) (H:=aa []) (oA:(s).length<=2^40))<|Mt (cM a)<|Kt 0 (cM a)<|Mp (aT.onArgs (.cons (fw q _<|aX V4 s)<|lc .nil) h:kP 326 [lw q false,bV (bK 325) [] []] _)<|Mt (cM a)<|Ku 0 (cM a)<|Kf 0<|cC<|rr0<|aj<|List.any s fun a=>aj<|QO 33 126 a) fun a=>Mh (ca a)<|Mh (ca a)<|Mh (ca a)<|Mh (ca a)<|My (ca a)<|Ky 0<|rr0 false) fun a=>Mh (ca a)<|Mh (ca a)<|My (ca a)<|Ky 2<|rr0 false
theorem ifS(l:List aP)(g:Nat)(p:aP->Bool)(hp:∀s,s∈l->kP g [.str s] (.bool (p s)))(hl:l.length<2^40):kP 324 [.ls (l.map nW),.func (.func g) [] []] (iV (dn p l 0)):=by
  have rr0 b' (h:(dn p l 0)=b':=by first|exact md zd0 hr0 hj0 ‹_› |exact hj0):=h;exact bB Tryz.func324<|Kl 2 7 (ln nW l)<|Mg 0<|vZ nW l [0,1,7,8] (fun a _=>([aW<|l.map nW,bV (bK g) [] [],nV l.length,nV a],[])) (fun a=>dn p l (0:Nat)=dn p a (l.length-a.length)) sA (fun _ _ zd0 _ hr0 a hj0=>Kh 0 a<|Kf 0<|li<|rr0 (-1)) fun a _ zd0 _ b c d hr0 e _ f hj0=>Kt 0 e<|Kx 4 f<|Kp 0 (hp b<|by exact aN zd0 hr0)<|Mb (p b) (fun _=>Kf 1<|li<|rr0<|Int.ofNat a) fun _=>Kl 0 18 (dB a)<|Kf 0<|d<|by exact kj zd0 hr0 hj0 (by omega)
theorem cfS(l:List aP)(g:Nat)(p:aP->Bool)(hp:∀s,s∈l->kP g [.str s] (.bool (p s)))(hl:l.length<2^40):kP 292 [.ls (l.map nW),.func (.func g) [] []] (.bool (l.any p)):=by
  have h:=ifS l g p hp hl
  have rr0 b' (h:(l.any p)=b':=by(rw[lu];simp only[aS,aj,bS,nM])):=h;exact bB Tryz.func292<|Kp 2 h<|Kf 1<|cC<|rr0<|aj<|au (dn p l 0) 0
theorem ME(s:aP)(hs:s.length<=2^39):kP 293 [.str s] (.bool (aj (rP s))):=by
  exact bB Tryz.func293<|Kp 1 (SO s hs)<|Kf 1<|bx<|ez<|aj<|rP s
theorem KT(l:List aP)(hl:l.length<2^40)(hs:∀s,s∈l->s.length<=2^39):kP 256 [.ls (l.map nW)] (.bool (qc l)):=by
  have h:=cfS l 293 _ (fun s m=>ME s (hs s m)) hl
  have rr0 b' (h:(qc l)=b':=by first|(simp only[qc,aS,aj,bS, *];done)|(rw[qc,List.all_eq_not_any_not];simp only[aS,aj,bS, *])):=h;exact bB Tryz.func256<|Kl 2 4 (ln nW l)<|Kn 1 (au 256<|Int.ofNat l.length) (fun a=>Kt 0 (cM a)<|Mp h<|Mt (cM a)<|Ku 0 (cM a)<|Kf 0<|cC<|rr0<|aj<|l.any fun a=>aj<|rP a) fun a=>Mh (ca a)<|Mh (ca a)<|My (ca a)<|Ky 0<|rr0 false
theorem PO(r:Int):kP 150 [.int .i32 r] (.bool (au r 48||au 57 r)):=by
  have rr0 b' (h:(au r 48||au 57 r)=b':=by(simp only[aS,aj,bS, *])):=h;exact bB Tryz.func150<|Kb 3 (au r 48) (fun a=>Mt a<|MV a<|Ky 0<|rr0 true) fun a=>Kh 0 a<|Kw 0 a<|Kf 0<|cC<|rr0<|au 57 r
theorem TE(r:Int):kP 105 [.int .i32 r] (.bool (au r 65||au 90 r)):=by
  have rr0 b' (h:(au r 65||au 90 r)=b':=by(simp only[aS,aj,bS, *])):=h;exact bB Tryz.func105<|Kb 3 (au r 65) (fun a=>Mt a<|MV a<|Ky 0<|rr0 true) fun a=>Kh 0 a<|Kw 0 a<|Kf 0<|cC<|rr0<|au 90 r
theorem IX(s:PStep):kP 35 [az s] (.bool (ab s.kind 0&&dP s.label [])):=by
  have rr0 b' (h:(ab s.kind 0&&dP s.label [])=b':=by(simp only[aS,aj,bS, *];first|done|rfl)):=h;exact bB Tryz.func35<|Kb 5 (ab s.kind 0) (fun a=>Kt 0 a<|Kt 0 a<|Ku 0 a<|Kf 0<|cC<|rr0<|dP s.label (ByteArray.mk #[]).data.toList) fun a=>Mh a<|Mh a<|My a<|Ky 0<|rr0 false
theorem vW(n a b:Int):kP 207 [iV n,iV a,iV b] (.bool (aj (au n a)&&aj (au b n))):=by
  have rr0 b' (h:(aj (au n a)&&aj (au b n))=b':=by(simp only[aS,aj,bS, *])):=h;exact bB Tryz.func207<|Kn 4 (au n a) (fun c=>Kt 0 (cM c)<|Kt 0 (cM c)<|Ku 0 (cM c)<|Kf 0<|cC<|rr0<|aj<|au b n) fun c=>Mh (ca c)<|Mh (ca c)<|My (ca c)<|Ky 0<|rr0 false
theorem QT(s:aP):kP 149 [.str s,.func (.func 150) [] []] (iV (bif Nat.beq (ed kf s) s.length then -1 else Int.ofNat (ed kf s))):=
  AY jq (Go.Proofs.enters_of Go.Proofs.Tryz.lidxf.f15 (by kernel_rfl) rfl) (Go.Proofs.enters_of Tryz.func150 (by kernel_rfl) rfl)
    (fun s w hp=>Go.Proofs.Any.strings_IndexFunc_grows Go.Proofs.Tryz.lidxf 150 #[] (Go.Proofs.enters_of Tryz.func150 (by kernel_rfl) rfl) _ s w hp) PO (fun _=>rfl) (HM (lo:=48) (hi:=57) (by omega)) s
theorem Q0(s:aP)(h:By (Nat.beq (ed kf s) s.length) true):kP 149 [.str s,.func (.func 150) [] []] (iV (-1)):=by
  have:=QT s
  simp_all
theorem Ud(s:aP)(h:By (Nat.beq (ed kf s) s.length) false):kP 149 [.str s,.func (.func 150) [] []] (nV (ed kf s)):=by
  have:=QT s
  grind
theorem aak(s:aP):kP 106 [.str s,.func (.func 105) [] []] (.bool (aj (s.all X0))):=
  uG jq (Go.Proofs.enters_of Go.Proofs.Tryz.lconf.f17 (by kernel_rfl) rfl) (Go.Proofs.enters_of Tryz.func105 (by kernel_rfl) rfl)
    (fun s w hp=>Go.Proofs.Any.strings_ContainsFunc_grows Go.Proofs.Tryz.lconf 105 #[] (Go.Proofs.enters_of Tryz.func105 (by kernel_rfl) rfl) _ s w hp) TE (fun _=>rfl) (HM (lo:=65) (hi:=90) (by omega)) s
theorem Nw(s:aP)(hs:s.length<=2^39):kP 104 [.str s] (.tuple [.str (s.take (ed kf s)),.str (s.drop (ed kf s))]):=by
  have hl:=KP (p:=kf) (s:=s)
  have rr0 b' (h:(s.take (ed kf s))=b':=by(rw[pC h0];simp)):=h;have rr1 b' (h:(s.drop (ed kf s))=b':=by(rw[pC h0];simp)):=h;let q:=AHeap.mk 1000000 Tr.nil;exact bB Tryz.func104<|Ks 2 ((ed kf s).beq<|List.length s) (fun h0=>Mp (Q0 s h0)<|Kf 6<|cp<|.cons (Le.str<|rr0 s)<|.cons (Le.str<|rr1 []) .nil) fun h0=>Mp (Ud s h0)<|Kv 5 (Wf (s:=s) (n:=ed kf s) (k:=IntKind.i64) (H:=q) oA)<|Kv 1 (We (s:=s) (l:=ed kf s) (k:=IntKind.i64) (H:=q) oA)<|Kf 1<|bx<|b8 [ax<|s.take<|ed kf s,ax<|s.drop<|ed kf s]
theorem uV(s:aP)(hs:s.length<=2^39):kP 68 [.str s] (.bool (kz s)):=by
  have hd:(s.drop (ed kf s)).length<=2^39:=by grind
  have rr0 b' (h:(kz s)=b':=by first|(simp only[kz,aS,aj,bS,nM, *];done)|(simp only[kz,aS,aj,bS,nM, *];rfl)|(unfold kz;simp only[h0,h1,h2];rfl)):=h;exact bB Tryz.func68<|Kp 1 (Nw s hs)<|Kd 9 (Int.ofNat (s.take<|ed kf s).length) 1 (fun h0 _=>Kt 0 (cM h0)<|Kt 0 (cM h0)<|Ku 0 (cM h0)<|Kd 0 4 (Int.ofNat (s.take<|ed kf s).length) (fun h1 _=>Kt 0 (cM h1)<|M1 (.chr<|gD (s.take<|ed kf s) 0) (zd (gR:0<(s.take (ed kf s)).length))<|Mt (cM h1)<|Ku 0 (cM h1)<|Kc 0 (Int.ofNat (gD (s.take<|ed kf s) 0).toNat) 48 (fun h2 _=>Kt 0 (cM h2)<|Kt 0 (cM h2)<|Ku 0 (cM h2)<|Kd 0 3 (Int.ofNat (s.drop<|ed kf s).length) (fun a _=>Kt 0 (cM a)<|Kt 0 (cM a)<|Mp (aak<|s.drop<|ed kf s)<|Mt (cM a)<|Ku 0 (cM a)<|Kf 0<|cC<|rr0<|aj<|aj<|(s.drop<|ed kf s).all X0) fun a _=>Mh (ca a)<|Mh (ca a)<|Mh (ca a)<|My (ca a)<|Ky 0<|rr0 false) fun h2 _=>Mh (ca h2)<|Mh (ca h2)<|My (ca h2)<|Ky 2<|rr0 false) fun h1 _=>Mh (ca h1)<|Mh (ca h1)<|My (ca h1)<|Ky 4<|rr0 false) fun h0 _=>Mh (ca h0)<|Mh (ca h0)<|My (ca h0)<|Ky 6<|rr0 false
theorem u0(p:List PStep)(hl:p.length<2^40)(hs:∀s,s∈p->s.label.length<=2^39):kP 33 [.ls (p.map az)] (.bool (kH p)):=by
  have rr0 b' (h:(kH p)=b':=by first|(rw[kH,hj0,Ve];rfl)|(rw[kH,EM zd0 hr0 hj0];simp only[na,tw,‹ab (Int.ofNat zi0) 0=_›,cond_true,cond_false];simp only[EQ,aS,aj,bS, *];first|done|rfl)):=h;exact bB Tryz.func33<|Kl 2 6 (ln az p)<|Mg 0<|vZ az p [0,5,6,7] (fun a _=>([aW<|p.map az,aW<|p.map az,nV p.length,nV a],[])) (fun a=>Oh p=IZ p a) (by(exact Og)) (fun zi0 _ zd0 _ hr0 a hj0=>Kh 0 a<|Kl 1 34 (ln az p)<|Kf 1<|cC<|rr0<|aj<|au 9<|Int.ofNat p.length) fun zi0 _ zd0 _ a b c hr0 d _ e hj0=>Kt 0 d<|Kx 0 e<|Kj 6 (Int.ofNat zi0) 0 (fun d _=>Kt 0 d<|Mp (IX a)<|MV d<|Mb (ab a.kind 0&&dP a.label []) (fun _=>Kl 0 32 (dB zi0)<|K1 0 (.frz 0 [0,5,6,7]) ti<|Mf<|c<|by(rw[EM zd0 hr0 hj0];simp only[na,tw,‹ab (Int.ofNat zi0) 0=_›,cond_true,cond_false];simp only[EQ,aS,aj,bS, *];first|done|rfl)) fun _=>Kd 3 0 a.kind (fun a _=>Mt (cM a)<|Mt (cM a)<|MV (cM a)<|Ky 3<|rr0 false) fun d _=>Kh 0 (ca d)<|Kh 0 (ca d)<|Kw 0 (ca d)<|Ka 0 7 a.kind (fun a _=>Mt a<|Mt a<|Mt a<|MV a<|Ky 1<|rr0 false) fun d _=>Kh 0 d<|Kh 0 d<|Mp (uV a.label<|by exact hs _ (aN zd0 hr0))<|Mh d<|Kw 0 d<|Mn (kz a.label) (fun _=>Kf 0<|cC<|rr0 false) fun _=>Kl 0 32 (dB zi0)<|K1 0 (.frz 0 [0,5,6,7]) ti<|Mf<|c<|by(rw[EM zd0 hr0 hj0];simp only[na,tw,‹ab (Int.ofNat zi0) 0=_›,cond_true,cond_false];simp only[EQ,aS,aj,bS, *];first|done|rfl)) fun d _=>Mh d<|My d<|Kd 4 0 a.kind (fun a _=>Mt (cM a)<|Mt (cM a)<|MV (cM a)<|Ky 3<|rr0 false) fun d _=>Kh 0 (ca d)<|Kh 0 (ca d)<|Kw 0 (ca d)<|Ka 0 7 a.kind (fun a _=>Mt a<|Mt a<|Mt a<|MV a<|Ky 1<|rr0 false) fun d _=>Kh 0 d<|Kh 0 d<|Mp (uV a.label<|by exact hs _ (aN zd0 hr0))<|Mh d<|Kw 0 d<|Mn (kz a.label) (fun _=>Kf 0<|cC<|rr0 false) fun _=>Kl 0 32 (dB zi0)<|K1 0 (.frz 0 [0,5,6,7]) ti<|Mf<|c<|by(rw[EM zd0 hr0 hj0];simp only[na,tw,‹ab (Int.ofNat zi0) 0=_›,cond_true,cond_false];simp only[EQ,aS,aj,bS, *];first|done|rfl)
theorem Uc(l:List Int)(v:Int)(hl:l.length<2^40):kP 316 [.ls (l.map bZ),iV v] (iV (dn (ab v) l 0)):=by
  have rr0 b' (h:(dn (ab v) l 0)=b':=by first|exact md zd0 hr0 hj0 ‹_› |exact hj0):=h;exact bB Tryz.func316<|Kl 2 7 (ln bZ l)<|Mg 0<|vZ bZ l [0,1,7,8] (fun a _=>([aW<|l.map bZ,iV v,nV l.length,nV a],[])) (fun a=>dn (ab v) l (0:Nat)=dn (ab v) a (l.length-a.length)) sA (fun _ _ zd0 _ hr0 a hj0=>Kh 0 a<|Kf 0<|li<|rr0 (-1)) fun a _ zd0 _ b c d hr0 e _ f hj0=>Kt 0 e<|Kx 4 f<|Kj 1 v b (fun _ _=>Kf 1<|li<|rr0<|Int.ofNat a) fun _ _=>Kl 0 18 (dB a)<|Kf 0<|d<|by exact kj zd0 hr0 hj0 (by omega)
theorem ri(l:List Int)(v:Int)(hl:l.length<2^40):kP 284 [.ls (l.map bZ),iV v] (.bool (l.any (ab v))):=by
  have h:=Uc l v hl
  have rr0 b' (h:(l.any (ab v))=b':=by(rw[lu];simp only[aS,aj,bS,nM])):=h;exact bB Tryz.func284<|Kp 2 h<|Kf 1<|cC<|rr0<|aj<|au (dn (ab v) l 0) 0
theorem QS(v:Int):kP 316 [.nils,iV v] (iV (-1)):=by
  let q:=[ak,iV v,iV 0,iV 0];exact bB Tryz.func316<|Mg 3<|Zr [0,1,7,8] (q,[]) True 0 ti fun _ _=>Kf 2<|bx<|iV (-1)
theorem HH(v:Int):kP 284 [.nils,iV v] (.bool false):=by
  have h:=QS v
  exact bB Tryz.func284<|Kp 2 h<|Kf 1<|bx<|ez false
theorem kn0:kP 336 [iV 0] (.str (dQ 0)):=by
  exact wk Tryz.func336 (.go 11 .fin)<|bx<|ax [98,111,111,107]
theorem kn1:kP 336 [iV 1] (.str (dQ 1)):=by
  exact wk Tryz.func336 (.go 11 .fin)<|bx<|ax [112,97,114,116]
theorem kn2:kP 336 [iV 2] (.str (dQ 2)):=by
  exact wk Tryz.func336 (.go 11 .fin)<|bx<|ax [115,101,99,116,105,111,110]
theorem kn3:kP 336 [iV 3] (.str (dQ 3)):=by
  exact wk Tryz.func336 (.go 11 .fin)<|bx<|ax [112,97,114,97,103,114,97,112,104]
theorem kn4:kP 336 [iV 4] (.str (dQ 4)):=by
  exact wk Tryz.func336 (.go 11 .fin)<|bx<|ax [116,97,98,108,101]
theorem kn5:kP 336 [iV 5] (.str (dQ 5)):=by
  exact wk Tryz.func336 (.go 11 .fin)<|bx<|ax [114,111,119]
theorem kn6:kP 336 [iV 6] (.str (dQ 6)):=by
  exact wk Tryz.func336 (.go 11 .fin)<|bx<|ax [99,101,108,108]
theorem kn7:kP 336 [iV 7] (.str (dQ 7)):=by
  exact wk Tryz.func336 (.go 11 .fin)<|bx<|ax [110,111,116,101]
theorem knX(k:Int)(h:k<0\/7<k):kP 336 [iV k] (.str (dQ k)):=by
  rw[Jx h]
  have c:au k 0=true\/(au k 0=false/\au k 8=false):=by
    grind[m0,kq]
  rcases c with c|⟨c,d⟩
  · exact bB Tryz.func336<|Kt 3 c<|Mt c<|MV c<|Kf 1<|bx<|ax []
  · exact bB Tryz.func336<|Kh 3 c<|Kh 0 c<|Kw 0 c<|Mt (cM d)<|Kf 0<|bx<|ax []
theorem wI(k:Int):kP 336 [iV k] (.str (dQ k)):=by
  by_cases h:k<0\/7<k
  · grind[knX]
  · grind[kn0,kn1,kn2,kn3,kn4,kn5,kn6,kn7]
theorem ccX(p k:Int)(h:p<0\/7<p):kP 237 [iV p,iV k] (.bool (jV p k)):=by
  unfold jV
  rw[Ig h]
  have c:au p 0=true\/(au p 0=false/\au p 8=false):=by
    grind[m0,kq]
  rcases c with c|⟨c,d⟩
  · exact bB Tryz.func237<|Kh 3 (ca c)<|Mh (ca c)<|My (ca c)<|Kf 2<|bx<|ez false
  · exact bB Tryz.func237<|Kt 3 (cM c)<|Kt 0 (cM c)<|Ku 0 (cM c)<|Kh 0 d<|Mh d<|Mh d<|Mh d<|Mh d<|My d<|Kf 0<|bx<|ez false
theorem cc0(k:Int):kP 237 [iV 0,iV k] (.bool (jV 0 k)):=by
  have h:=ri [1,2] k (by grind)
  let q:=[iV 1,iV 2];exact bB Tryz.func237<|Kp 11 (aT.onArgs (.cons (fw q _<|by rfl)<|lc .nil) h:kP 284 [lw q false,iV k] _)<|Kf 1<|bx<|ez<|[1,2].any<|ab k
theorem cc1(k:Int):kP 237 [iV 1,iV k] (.bool (jV 1 k)):=by
  have h:=ri [2] k (by grind)
  let q:=[iV 2];exact bB Tryz.func237<|Kp 11 (aT.onArgs (.cons (fw q _<|by rfl)<|lc .nil) h:kP 284 [lw q false,iV k] _)<|Kf 1<|bx<|ez<|[2].any<|ab k
theorem cc2(k:Int):kP 237 [iV 2,iV k] (.bool (jV 2 k)):=by
  have h:=ri [3,4,7] k (by grind)
  let q:=[iV 3,iV 4,iV 7];exact bB Tryz.func237<|Kp 11 (aT.onArgs (.cons (fw q _<|by rfl)<|lc .nil) h:kP 284 [lw q false,iV k] _)<|Kf 1<|bx<|ez<|[3,4,7].any<|ab k
theorem cc3(k:Int):kP 237 [iV 3,iV k] (.bool (jV 3 k)):=by
  have h:=ri [3,4,7] k (by grind)
  let q:=[iV 3,iV 4,iV 7];exact bB Tryz.func237<|Kp 11 (aT.onArgs (.cons (fw q _<|by rfl)<|lc .nil) h:kP 284 [lw q false,iV k] _)<|Kf 1<|bx<|ez<|[3,4,7].any<|ab k
theorem cc4(k:Int):kP 237 [iV 4,iV k] (.bool (jV 4 k)):=by
  have h:=ri [5] k (by grind)
  let q:=[iV 5];exact bB Tryz.func237<|Kp 11 (aT.onArgs (.cons (fw q _<|by rfl)<|lc .nil) h:kP 284 [lw q false,iV k] _)<|Kf 1<|bx<|ez<|[5].any<|ab k
theorem cc5(k:Int):kP 237 [iV 5,iV k] (.bool (jV 5 k)):=by
  have h:=ri [6] k (by grind)
  let q:=[iV 6];exact bB Tryz.func237<|Kp 11 (aT.onArgs (.cons (fw q _<|by rfl)<|lc .nil) h:kP 284 [lw q false,iV k] _)<|Kf 1<|bx<|ez<|[6].any<|ab k
theorem cc6(k:Int):kP 237 [iV 6,iV k] (.bool (jV 6 k)):=by
  have h:=HH k
  exact bB Tryz.func237<|Kp 11 h<|Kf 1<|bx<|ez false
theorem cc7(k:Int):kP 237 [iV 7,iV k] (.bool (jV 7 k)):=by
  have h:=HH k
  exact bB Tryz.func237<|Kp 11 h<|Kf 1<|bx<|ez false
theorem zn(p k:Int):kP 237 [iV p,iV k] (.bool (jV p k)):=by
  by_cases h:p<0\/7<p
  · grind[ccX]
  · grind[cc0,cc1,cc2,cc3,cc4,cc5,cc6,cc7]
theorem aD{n b m:Nat}(h1:n<=m)(h2:m<=2^40)(h3:m*b<=2^40):small n b=true:=by
  unfold small
  have h4:n*b<=m*b:=ef b h1
  grind[Nat.ble_eq_true_of_le]
noncomputable abbrev wy(u:TUnit):AObj:=.row 8 false 0 [eU u]
def Iy(p:PId)(u:TUnit)(x0:Nat×List TUnit×Unit):Prop:=(u.kids).drop x0.1=x0.2.1/\b9 p u.kids=b9 p x0.2.1
noncomputable def yo(p:PId)(u:TUnit)(x0:Nat×List TUnit×Unit):List AV×List AObj:=([AV.ptr 0 0 0 0,AV.ptr 1 0 0 0,AV.ls (u.kids.map aU),nV u.kids.length,nV x0.1],[AObj.row 8 false 0 [AV.agg [iV u.act,iV u.item,iV u.n,iV u.kind,AV.str u.label,AV.ls (u.head.map aQ),AV.ls (u.words.map aQ),AV.ls (u.kids.map aU)]],AObj.row 3 false 0 [AV.agg [iV p.a,iV p.i,iV p.n]]])
theorem Fv(p:PId):∀(u:TUnit),nU u<=2^20->(bp p u=false->kP 58 [eU u,aV p] .nils)/\(bp p u=true->kP 58 [eU u,aV p] (.ps ((aC p u).map aU) false)):=by
  refine TUnit.ind fun u ih hn=>?_
  have ihn:∀k,k∈u.kids->By (bp p k) false->kP 58 [eU k,aV p] .nils:=fun k hk h=>(ih k hk (bH (oM (ig hk)) hn)).1 h
  have ihy:∀k,k∈u.kids->By (bp p k) true->kP 58 [eU k,aV p] (.ps ((aC p k).map aU) false):=fun k hk h=>(ih k hk (bH (oM (ig hk)) hn)).2 h
  have hkl:=bg u
  refine⟨fun hs=>?_,fun hs=>?_⟩
  · let q:=[av [iV u.act,iV u.item,iV u.n,iV u.kind,ax u.label,aW (u.head.map aQ),aW (u.words.map aQ),aW (u.kids.map aU)]];let q3:=[iV p.a,iV p.i,iV p.n];exact bB Tryz.func58<|Kv 5 (lQ ((Tryz.prog).underlying 26) u.act u.item u.n p.a p.i p.n<|aa [aZ 8 false 0 q,aZ 3 false 0 [av q3]])<|Mb (ab u.act p.a&&(ab u.item p.i&&ab u.n p.n)) (fun _=>Kf 2<|fk (by exact absurd (hs.symm.trans (Ez ‹_›)) (by grind):(AV.nils)=(AV.ps q true))) fun _=>Kl 2 16 (ln aU u.kids)<|Mg 0<|Vo (0:Nat) u.kids () [2,3,15,16,17] (fun a _ _=>([bX 0 0 0 0,bX 1 0 0 0,aW<|u.kids.map aU,nV u.kids.length,nV a],[aZ 8 false 0 [av [iV u.act,iV u.item,iV u.n,iV u.kind,ax u.label,aW<|u.head.map aQ,aW<|u.words.map aQ,aW<|u.kids.map aU]],aZ 3 false 0 [av [iV p.a,iV p.i,iV p.n]]])) (fun a b _=>(u.kids).drop a=b/\b9 p u.kids=b9 p b) (fun _ a _=>a.length) (et rfl<|by rfl) fun a b c d e=>Mc b (fun a=>have b:=gx d.1 a;have:=jJ (J:=fun a _=>b9 p u.kids=b9 p a) (a:=c) a d.2;Kh 0 b<|Kf 0<|bx ak) fun b f g=>let i:=List.map aU<|[u]++aC p b;have j:=gc d.1 g;have:=ap j;have l:=(gz (enc:=aU) d.1 g).trans<|congrArg some<|aO b;have c:=cT (J:=fun a _=>b9 p u.kids=b9 p a) (a:=c) g d.2;have:nU b<nU u:=ig<|aN d.1 g;have:(aC p b).length<=nU b:=mj b;Kt 0 j<|Mx l<|Ks 4 (bp p b) (fun a=>Mp (ihy b (by exact aN d.1 g) a)<|Mg 6<|M2 .apl (et (by simp_all[jg]:List.map aU (aC p b)≠[])<|gi (sz:=8) (f:=aU) (fun _=>by(rw[aO];rfl))<|aC p b) (et (by(refine aD (m:=2^21) ?_ ?_ ?_<;>(try simp only[lM,lC,lN])<;>(have:=mj (p:=p) b;omega)):small (([AV.agg [iV u.act,iV u.item,iV u.n,iV u.kind,AV.str u.label,AV.ls (u.head.map aQ),AV.ls (u.words.map aQ),AV.ls (u.kids.map aU)]]).length+((aC p b).map aU).length) 120=true) rt)<|M1 (.obj 3<|aZ 8 true 0 i) (congrArg (aZ 8 true 0) (by(simp only[pA,eb,wK,aO,eY]<;>rfl):[AV.agg [iV u.act,iV u.item,iV u.n,iV u.kind,AV.str u.label,AV.ls (u.head.map aQ),AV.ls (u.words.map aQ),AV.ls (u.kids.map aU)]]++List.map aU (aC p b)=List.map aU ([u]++aC p b)))<|Mg 0<|M2 (.fsl 0 [] 4 i) ti (co (aJ 0) (tA aU ([u]++aC p b) (q++List.map aU (aC p b)).length (sA:([u]++aC p b).length=([AV.agg [iV u.act,iV u.item,iV u.n,iV u.kind,AV.str u.label,AV.ls (u.head.map aQ),AV.ls (u.words.map aQ),AV.ls (u.kids.map aU)]]++List.map aU (aC p b)).length))<|aX gT<|[u]++aC p b)<|Ml 4 (fw i false<|aX gT<|[u]++aC p b)<|Mf<|fk (by exact absurd (hs.symm.trans (Ui (by assumption) c (by omega))) (by grind):(AV.nils)=(AV.ls i))) fun c=>Mp (ihn b (by exact aN d.1 g) c)<|Kl 4 30 (dB a)<|K1 0 (.frz 2 [2,3,15,16,17]) (co rt rt ti)<|Mf<|e (a+1) f () (et (bN d.1 g)<|by grind[gv])<|fF g
  · have rr0:∀b',(h:((aC p u).map aU)=b':=by first|rfl|exact absurd (hs.symm.trans (GS (by assumption) hj0)) (by decide)|(rw[tU (by assumption),eb,aO];rfl)|(rw[KK (by assumption) hj0 (by assumption)];rfl))->((aC p u).map aU)=b':=(fun _ h=>h);let q:=[av [iV u.act,iV u.item,iV u.n,iV u.kind,ax u.label,aW (u.head.map aQ),aW (u.words.map aQ),aW (u.kids.map aU)]];let q3:=[iV p.a,iV p.i,iV p.n];exact bB (hv:=(aX gT (aC p u))) Tryz.func58 (Kv 5 (yy (d:=(Tryz.prog).underlying 26) (n:=3) (l:=(0,1)::(1,1)::(2,1)::[]) (xs:=[iV u.act,iV u.item,iV u.n]) (ys:=q3) (H:=aa [aZ 8 false 0 q,aZ 3 false 0 [av q3]]) rfl (og (e:=ab u.act p.a) rfl rfl rfl (og (e:=ab u.item p.i) rfl rfl rfl (Ag (e:=ab u.n p.n) rfl rfl rfl rfl)))) (Mb (ab u.act p.a&&(ab u.item p.i&&ab u.n p.n)) (fun h0=>Kf 2 ((SG (rr0 q)):Le _ (lw q true))) (fun h0=>Kl 2 16 (Le.len (f:=aU) (l:=u.kids)) (Mg 0 (ML (Nat×List TUnit×Unit) [2,3,15,16,17] (yo p u) (Iy p u) (fun x=>x.2.1.length) (0,u.kids,()) (aJ ((yo p u) (0,u.kids,()))) (et (rfl:List.drop 0 (u.kids)=u.kids) (by rfl:(b9 p u.kids=b9 p u.kids))) (fun x0 hx0 nx0=>Mc x0.2.1 (fun hr0=>have lt0:=gx hx0.1 hr0;have hj0:=jJ (J:=fun r x=>b9 p u.kids=b9 p r) (a:=x0.2.2) hr0 hx0.2;(Kh 0 lt0 (Kf 0 (fk (by exact absurd (hs.symm.trans (GS (by assumption) hj0)) (by grind):(AV.ps ((aC p u).map aU) false)=(AV.nils)))))) (fun w0 r0 hr0=>let q2:=List.map aU ([u]++aC p w0);have lt0:=gc hx0.1 hr0;have glt0:=ap lt0;have nt0:=(gz (enc:=aU) hx0.1 hr0).trans (congrArg some (aO w0));have hj0:=cT (J:=fun r x=>b9 p u.kids=b9 p r) (a:=x0.2.2) hr0 hx0.2;have q0:nU w0<nU u:=ig (aN hx0.1 hr0);have q1:(aC p w0).length<=nU w0:=mj w0;(Kt 0 lt0 (Mx nt0 (Ks 4 (bp p w0) (fun h2=>Mp (ihy w0 (by exact aN hx0.1 hr0) h2) (Mg 6 (M2 .apl (et (by simp_all[jg]:List.map aU (aC p w0)≠[]) (gi (sz:=8) (f:=aU) (fun _=>by(rw[aO];rfl)) (aC p w0))) (et (by(refine aD (m:=2^21) ?_ ?_ ?_<;>(try simp only[lM,lC,lN])<;>(have:=mj (p:=p) w0;omega)):small (([AV.agg [iV u.act,iV u.item,iV u.n,iV u.kind,AV.str u.label,AV.ls (u.head.map aQ),AV.ls (u.words.map aQ),AV.ls (u.kids.map aU)]]).length+((aC p w0).map aU).length) 120=true) rt) (M1 (.obj 3 (aZ 8 true 0 q2)) (congrArg (aZ 8 true 0) (by(simp only[pA,eb,wK,aO,eY]<;>rfl):[AV.agg [iV u.act,iV u.item,iV u.n,iV u.kind,AV.str u.label,AV.ls (u.head.map aQ),AV.ls (u.words.map aQ),AV.ls (u.kids.map aU)]]++List.map aU (aC p w0)=List.map aU ([u]++aC p w0))) (Mg 0 (M2 (.fsl 0 [] 4 q2) ti (co (aJ (0)) (KB (f:=aU) (l:=[u]++aC p w0) (n:=(q++List.map aU (aC p w0)).length) (by simp_all:([u]++aC p w0).length=([AV.agg [iV u.act,iV u.item,iV u.n,iV u.kind,AV.str u.label,AV.ls (u.head.map aQ),AV.ls (u.words.map aQ),AV.ls (u.kids.map aU)]]++List.map aU (aC p w0)).length)) (aX gT ([u]++aC p w0))) (Mf ((SG (rr0 q2)):Le _ (lw q2 false))))))))) (fun h2=>Mp (ihn w0 (by exact aN hx0.1 hr0) h2) (Kl 4 30 (Le.wr (x:=Int.ofNat x0.1+1) fy) (K1 0 (.frz 2 [2,3,15,16,17]) (co rt rt ti) (Mf (nx0 (x0.1+1,r0,()) (et (bN hx0.1 hr0) (by grind[gv]:(b9 p u.kids=b9 p r0))) (fF hr0))))))))))))))))
theorem KV(p:PId)(u:TUnit)(h:By (bp p u) false)(hn:nU u<=2^20):kP 58 [eU u,aV p] .nils:=(Fv p u hn).1 h
theorem Fw(p:PId)(u:TUnit)(h:By (bp p u) true)(hn:nU u<=2^20):kP 58 [eU u,aV p] (.ps ((aC p u).map aU) false):=(Fv p u hn).2 h
theorem SQ:kP 99 [.nils] .nils:=by
  exact wk Tryz.func99 (.go 4 .fin)<|bx ak
theorem R9:kP 99 [.ps [] false] (.ps [] true):=by
  exact wk Tryz.func99 (.go 7 .fin)<|bx<|lw [] true
theorem SZ(w:PWord)(r:List PWord)(hl:r.length<2^30):kP 99 [.ls ((w::r).map aQ)] (.ls ((w::r).map aQ)):=by
  let q:=List.map aQ (w::r);exact bB Tryz.func99<|Mg 1<|Mz 3 (fun(a:((w::r).map aQ:List AV)=[])=>Mw .abs<|j5 _ _ a)<|Mg 3<|M2 .apl (et (sA:List.map aQ (w::r)≠[])<|fM 4 aQ (w::r) fun _=>rfl) (by(refine aD (m:=2^31) ?_ ?_ ?_<;>first|omega|grind):small ((w::r).map aQ).length 40=true)<|Mg 0<|M2 (.fsl 0 [] 2 q) ti (co (aJ 0) (tA aQ (w::r) q.length (sA:(w::r).length=((w::r).map aQ).length))<|aX iC<|w::r)<|Ml 2 (fw q false<|aX iC<|w::r)<|Mf<|bx<|aW q
theorem Nb(p:PId)(u:TUnit)(h:By (bp p u) false)(hn:nU u<=2^20):kP 253 [eU u,.pptr [aV p] 0 0] (.bool false):=by
  have h':bp p u=false:=h
  exact bB Tryz.func253<|Kp 3 (KV p u h hn)<|Kf 1<|bx<|ez false
theorem Na(p:PId)(u:TUnit)(h:By (bp p u) true)(hn:nU u<=2^20):kP 253 [eU u,.pptr [aV p] 0 0] (.bool true):=by
  have h':bp p u=true:=h
  exact bB Tryz.func253<|Kp 3 (Fw p u h hn)<|Kf 1<|bx<|ez true
theorem aaN(l:List TUnit)(g:Nat)(q:TUnit->Bool)(hp:∀k,k∈l->kP g [eU k] (.bool (q k)))(hl:l.length<2^40):kP 252 [.ls (l.map aU),.func (.func g) [] []] (iV (dn q l 0)):=by
  have rr0 b' (h:(dn q l 0)=b':=by first|exact md zd0 hr0 hj0 ‹_› |exact hj0):=h;exact bB Tryz.func252<|Kl 2 7 (ln aU l)<|Mg 0<|vZ aU l [0,1,7,8] (fun a _=>([aW<|l.map aU,bV (bK g) [] [],nV l.length,nV a],[])) (fun a=>dn q l (0:Nat)=dn q a (l.length-a.length)) sA (fun _ _ zd0 _ hr0 a hj0=>Kh 0 a<|Kf 0<|li<|rr0 (-1)) fun a _ zd0 _ b c d hr0 e _ f hj0=>have f:=f.trans<|congrArg some<|aO b;Kt 0 e<|Kx 4 f<|Kp 0 (hp b<|by exact aN zd0 hr0)<|Mb (q b) (fun _=>Kf 1<|li<|rr0<|Int.ofNat a) fun _=>Kl 0 18 (dB a)<|Kf 0<|d<|by exact kj zd0 hr0 hj0 (by omega)
theorem aaf(l:List TUnit)(g:Nat)(p:PId)(q:TUnit->Bool)(hp:∀k,k∈l->kP g [eU k,.pptr [aV p] 0 0] (.bool (q k)))(hl:l.length<2^40):kP 252 [.ls (l.map aU),.func (.func g) [] [.pptr [aV p] 0 0]] (iV (dn q l 0)):=by
  have rr0 b' (h:(dn q l 0)=b':=by first|exact md zd0 hr0 hj0 ‹_› |exact hj0):=h;exact bB Tryz.func252<|Kl 2 7 (ln aU l)<|Mg 0<|vZ aU l [0,1,7,8] (fun a _=>([aW<|l.map aU,bV (bK g) [] [AV.pptr [av [iV p.a,iV p.i,iV p.n]] 0 0],nV l.length,nV a],[])) (fun a=>dn q l (0:Nat)=dn q a (l.length-a.length)) sA (fun _ _ zd0 _ hr0 a hj0=>Kh 0 a<|Kf 0<|li<|rr0 (-1)) fun a _ zd0 _ b c d hr0 e _ f hj0=>have f:=f.trans<|congrArg some<|aO b;Kt 0 e<|Kx 4 f<|Kp 0 (hp b<|by exact aN zd0 hr0)<|Mb (q b) (fun _=>Kf 1<|li<|rr0<|Int.ofNat a) fun _=>Kl 0 18 (dB a)<|Kf 0<|d<|by exact kj zd0 hr0 hj0 (by omega)
theorem RL{D a:Nat}{w:TUnit}{r:List TUnit}{u:TUnit}(h:D=Nat.max a (kF (w::r))/\a<=2^20)(q0:nU w<nU u)(q1:nJ w<nU w)(hn:nU u<=2^20):D=Nat.max (Nat.max a (1+nJ w)) (kF r)/\Nat.max a (1+nJ w)<=2^20:=by
  grind[kF]
theorem US{D a:Nat}(h:D=Nat.max a (kF [])/\a<=2^20):D=a:=by
  simp_all[DZ]
theorem HB:∀(u:TUnit),nU u<=2^20->kP 241 [eU u] (nV (nJ u)):=by
  refine TUnit.ind fun u ih hn=>?_
  have hkl:=bg u
  have ihk:∀k,k∈u.kids->kP 241 [eU k] (nV (nJ k)):=fun k hk=>ih k hk (bH (oM (ig hk)) hn)
  have rr0 b' (h:(Int.ofNat (nJ u))=b':=by(rw[LS,US hj0])):=h;exact bB Tryz.func241<|Kl 5 8 (ln aU u.kids)<|Mg 0<|OM aU u.kids (0:Nat) [3,7,8,9] (fun a _ b=>([nV b,aW<|u.kids.map aU,nV u.kids.length,nV a],[aZ 8 false 0 [av [iV u.act,iV u.item,iV u.n,iV u.kind,ax u.label,aW<|u.head.map aQ,aW<|u.words.map aQ,aW<|u.kids.map aU]]])) (fun a b=>kF u.kids=b.max (kF a)/\b<=2^20) sA (fun _ _ a _ _ _ b hj0=>Kh 0 b<|Kf 1<|li<|rr0<|Int.ofNat a) fun a _ b c d e f g i j _ l _=>have l:=(l).trans<|congrArg some<|aO e;have hj0:=cT (J:=fun a b=>kF u.kids=b.max (kF a)/\b<=2^20) (a:=b) i d;have d:=ig<|aN c i;have m:=El e;Kt 0 j<|Mx l<|Kp 4 (ihk e<|by exact aN c i)<|Kl 0 16 (b6 (x:=(1:Int)+Int.ofNat (nJ e)) (n:=(1:Nat)+nJ e) fy)<|Kl 0 17 (pp (k:=IntKind.i64)<|WN b<|1+nJ e)<|Kl 1 18 (iT a)<|K1 0 (.frz 1 [3,7,8,9]) (et rt ti)<|Mf<|g (b.max<|1+nJ e)<|by exact RL hj0 d m hn
theorem LL(g:Nat)(q:TUnit->Bool):∀(u:TUnit),(∀x,x∈bU u->kP g [eU x] (.bool (q x)))->u.kids.length<2^40->(∀x,x∈bU u->x.kids.length<2^40)->kP 101 [eU u,.func (.func g) [] []] (.bool (wX q u)):=by
  refine TUnit.ind fun u ih hp hl hk=>?_
  have ihk:∀k,k∈u.kids->kP 101 [eU k,.func (.func g) [] []] (.bool (wX q k)):=fun k hm=>ih k hm (fun x hx=>hp x (bv hm hx)) (hk k (Ln hm)) (fun x hx=>hk x (bv hm hx))
  have hs:=hp u (cS u)
  have rr0 b' (h:(wX q u)=b':=by first|(rw[yk];simp only[aS,aj,bS, *];done)|(rw[yk,hj0,Of])|(rw[yk,hj0,BW];simp only[aS,aj,bS, *];done)):=h;exact bB Tryz.func101<|Kp 3 hs<|Kn 0 (q u) (fun _=>Ky 0<|rr0 false) fun _=>Kl 2 13 (ln aU u.kids)<|K1 0 (.frz 0 [1,12,13,14]) ti<|vZ aU u.kids [1,12,13,14] (fun a _=>([bV (bK g) [] [],aW<|u.kids.map aU,nV u.kids.length,nV a],[])) (fun a=>(q u&&(dZ u.kids).all q)=(dZ a).all q) (by(simp only[aS,aj,bS, *];done)) (fun _ _ _ _ _ a hj0=>Kh 0 a<|Ky 0<|rr0 true) fun a _ b _ c d e f i _ j hj0=>have j:=j.trans<|congrArg some<|aO c;Kt 0 i<|Mx j<|Kp 4 (ihk c<|by exact aN b f)<|Kn 0 (wX q c) (fun _=>Kf 0<|cC<|rr0 false) fun _=>Kl 0 22 (dB a)<|K1 0 (.frz 0 [1,12,13,14]) ti<|Mf<|e<|by simp_all[BW]
theorem OY(u:TUnit)(n:Nat)(hn:n<2^40):kD 242 [eU u,.ptr 0 0 0 0] (aa [.row 1 false 0 [nV n]]) (.bool true) (aa [.row 1 false 0 [nV (n+1)]]):=by
  exact fu Tryz.func242 fun a=>Kl 3 5 (iT n)<|K1 1 (.frz 1 [3]) (et rt ti)<|Mf a
theorem Hw:∀(u:TUnit),∀(n:Nat),n+nU u<2^40->kD 101 [eU u,.func (.func 242) [] [.ptr 0 0 0 0]] (aa [.row 1 false 0 [nV n]]) (.bool true) (aa [.row 1 false 0 [nV (n+nU u)]]):=by
  refine TUnit.ind fun u ih n hn=>?_
  have hq:=jQ u
  have hl:=bg u
  exact OE Tryz.func101<|K1 3 (.frz 1 [1,2,7,8]) (et rt ti)<|Me (OY u n oA)<|Kl 4 13 (ln aU u.kids)<|Mg 0<|OM aU u.kids (n+1) [1,12,13,14] (fun a _ b=>([bV (bK 242) [] [bX 0 0 0 0],aW<|u.kids.map aU,nV u.kids.length,nV a],[aZ 1 false 0 [nV b]])) (fun a b=>n+nU u=b+eQ a/\b+eQ a<2^40) oA (fun _ _ a _ _ _ b _=>Kh 0 b<|Kf 0<|et (aJ<|ez true) (by simp_all[ma]:(aa [AObj.row 1 false 0 [nV a]])=(aa [AObj.row 1 false 0 [nV (n+nU u)]]))) fun a _ b c _ d e f g h _ i _=>have i:=i.trans<|congrArg some<|aO d;have c:=aN c g;have g:b+nU d<2^40:=(by grind[bf]);Kt 0 h<|Mx i<|K1 4 (.frz 1 [1,12,13,14,18,19]) (et rt ti)<|Me (ih d c b g)<|Kl 2 22 (iT a)<|Kf 0<|f (b+nU d)<|by grind[bf]
theorem En(u:TUnit)(hn:nU u<2^39):kP 171 [eU u] (nV (nU u)):=by
  have rr0 b' (h:(Int.ofNat (nU u))=b':=by(rw[f8])):=h;exact bB Tryz.func171<|Mg 5<|M0 (.ren [1,0] [] [3,4,5])<|M1 (.frz 1 [3,4,5]) (et rt ti)<|Me (Hw u 0 oA)<|Kf 1<|li<|rr0<|Int.ofNat<|0+nU u
noncomputable abbrev rG(ep n:Nat):AObj:=.row 1 false 0 [.slice 1 ep 0 n none]
noncomputable abbrev Nk(ep:Nat)(l:List PId):AObj:=.row 3 true ep (l.map aV)
theorem Xw(u:TUnit):kD 102 [eU u,.ptr 0 0 0 0] (aa [.row 1 false 0 [.nils]]) (.bool true) (aa [rG 0 1,Nk 0 [aI u]]):=by
  exact wcq Tryz.func102 (.go 8<|.ren [0,2,1] [] [3]<|.frz 2 [3] .fin) fun a=>et (co rt rt ti) a
theorem Xv(u:TUnit)(ep n:Nat)(l:List PId)(hn:n=l.length)(hl:l.length<2^30):kD 102 [eU u,.ptr 0 0 0 0] (aa [rG ep n,Nk ep l]) (.bool true) (aa [rG (ep+1) (n+1),Nk (ep+1) (l++[aI u])]):=by
  exact fu Tryz.func102 fun a=>K1 5 .app (co (aJ ep) (sA:n=(l.map aV).length) (by(refine aD (m:=2^31) ?_ ?_ ?_<;>omega):small (n+1) 24=true))<|M1 (.obj 1<|aZ 3 true (ep+1)<|(l++[PId.mk u.act u.item u.n]).map aV) (congrArg (aZ 3 true<|ep+1)<|dw (f:=aV) (l:=l) (ws:=[PId.mk u.act u.item u.n]))<|K1 1 (.frz 2 [3]) (co (tR 3 true (ep+1) 2<|aX JD<|l++[PId.mk u.act u.item u.n]) rt ti)<|Mf a
theorem N6:∀(u:TUnit),∀(ep n:Nat)(l:List PId),n=l.length->l.length+nU u<2^30->kC 101 [eU u,.func (.func 102) [] [.ptr 0 0 0 0]] (aa [rG ep n,Nk ep l])
    (fun v h=>∃y:Nat×Nat×List PId,(y.2.1=y.2.2.length/\y.2.2=l++cH u)/\v=.bool true/\h=aa [rG y.1 y.2.1,Nk y.1 y.2.2]):=by
  refine TUnit.ind fun u ih ep n l hn hl=>?_
  have hq:=jQ u
  have hkl:=bg u
  exact qY Tryz.func101 fun a=>K1 3 (.frz 2 [1,2,7,8]) (co (tR 3 true ep 2<|aX JD l) rt ti)<|Me (Xv u ep n l hn oA)<|Kl 4 13 (ln aU u.kids)<|Mg 0<|Vn aU u.kids (ep+1) (n+1) (l++[aI u]) [1,12,13,14] (fun a _ b c d=>([bV (bK 102) [] [bX 0 0 0 0],aW<|u.kids.map aU,nV u.kids.length,nV a],[aZ 1 false 0 [aH 1 b 0 c none],aZ 3 true b<|d.map aV])) (fun a _ b c=>b=c.length/\c++gS a=l++[aI u]++gS u.kids/\c.length+eQ a<2^30) gR (fun _ _ b c d _ _ _ e _=>Kh 0 e<|Kf 0<|a (b,c,d)<|by grind[ra,me]) fun a _ b c d e f g i j k m _ o _=>have o:=(o).trans<|congrArg some<|aO g;have:=cT (J:=fun a b=>b.2.1=b.2.2.length/\b.2.2++gS a=l++[aI u]++gS u.kids/\b.2.2.length+eQ a<2^30) (a:=(b,c,d)) k f;have e:=aN e k;have f:d.length+nU g<2^30:=(by grind[bf]);Kt 0 m<|Mx o<|K1 4 (.frz 2 [1,12,13,14,18,19]) (co (tR 3 true b 2<|aX JD d) rt ti)<|Mq (ih g e b c d oA f) fun b _=>Kl 2 22 (dB a)<|Kf 0<|j b.1 b.2.1 b.2.2<|by grind[bf,fm,ub]
theorem VC(l:List PWord)(hl:l.length<=300)(hs:∀w,w∈l->w.text.length<=2^39):kP 338 [.ls (l.map aQ)] (.bool (oO l)):=by
  have hv:=KT (l.map PWord.text) (by grind) (fun s hm=>by grind)
  have rr0 b' (h:(oO l)=b':=by(simp only[oO,aS,aj,bS, *])):=h;exact bB Tryz.func338<|Kl 3 7 (ln aQ l)<|Mg 0<|mQ Nat Nat (List aP) aQ l [0,3,6,7,8] (fun a _=>([aW<|l.map aQ,ak,aW<|l.map aQ,nV l.length,nV a],[])) (fun a _ b c d=>([aW<|l.map aQ,aH 0 b 0 c none,aW<|l.map aQ,nV l.length,nV a],[aZ 1 true b<|d.map nW])) (fun a=>a=l) (fun a _ b c=>b=c.length/\(0:Nat)<c.length/\c++List.map PWord.text a=List.map PWord.text l/\c.length+a.length=l.length) (by rfl) (fun _ _ _ _ _ a _=>Kh 0 a<|Kl 1 19 (ln aQ l)<|Kd 1 256 (Int.ofNat l.length) (fun a _=>Kt 0 (cM a)<|Mp (aT.onArgs (.cons (Le.lsn (sA:((l.map PWord.text).map nW)=[])) .nil) hv:kP 256 [ak] _)<|MV (cM a)<|Kf 0<|cC<|rr0<|qc<|l.map PWord.text) fun a _=>Mh (ca a)<|My (ca a)<|Kf 0<|cC<|rr0 false) (fun a _ _ _ b c _ d _ e _ f g=>Kt 0 e<|Mx f<|Kl 9 17 (iT a)<|Mg 0<|M0 (.ren [1,0] [] [0,3,6,7,8])<|M1 (.frz 1 [0,3,6,7,8]) (et rt ti)<|Mf<|d 0 1 [b.text]<|by(refine⟨rfl,by simp,?_,?_⟩<;>(rw[<-g])<;>(first|rfl|grind))) (fun _ _ a b c _ _ _ d _=>Kh 0 d<|Kl 1 19 (ln aQ l)<|Kd 1 256 (Int.ofNat l.length) (fun d _=>Mg 0<|M2 (.fsl 0 [21] 22<|c.map nW) ti (co (aJ a) (tA nW c b (oA:(c).length=b))<|aX JC c)<|Ml 22 (fw (c.map nW) false<|aX JC c)<|Mt (cM d)<|Mp (aT.onArgs (.cons (cY (sA:((l.map PWord.text).map nW)=(c.map nW))) .nil) hv:kP 256 [aW (c.map nW)] _)<|MV (cM d)<|Kf 0<|cC<|rr0<|qc<|l.map PWord.text) fun a _=>Mh (ca a)<|My (ca a)<|Kf 0<|cC<|rr0 false) fun a _ b c d _ _ e f _ g _ i _ j k=>Kt 0 i<|Mx j<|K1 6 .app (co (aJ b) (sA:c=(d.map nW).length) (by(refine aD (m:=2^20) ?_ ?_ ?_<;>omega):small (c+1) 16=true))<|M1 (.obj 0<|aZ 1 true (b+1)<|(d++[e.text]).map nW) (congrArg (aZ 1 true<|b+1)<|dw (f:=nW) (l:=d) (ws:=[e.text]))<|Kl 1 17 (iT a)<|K1 0 (.frz 1 [0,3,6,7,8]) (et (tR 1 true (b+1) 1<|aX JC<|d++[e.text]) ti)<|Mf<|g (b+1) (c+1) (d++[e.text])<|by(refine⟨by simp_all,by simp,?_,?_⟩<;>first|(rw[<-k.2.2.1];simp;done)|grind)
theorem pW(a b:Nat):Int.ofNat (a+b)=Int.ofNat a+Int.ofNat b:=rfl
theorem Sn(u:TUnit)(h1:u.head.length<=300)(h2:u.words.length<=300)(h3:u.kids.length<2^30)(h4:u.label.length<=2^39)(h5:∀w,w∈u.head->w.text.length<=2^39)(h6:∀w,w∈u.words->w.text.length<=2^39):kP 321 [eU u] (.bool (mV u)):=by
  have hlk:∀(m:List ((Int×aP)×Bool))(a:Int)(s:aP),eM (some (.bool false)) false (ba true 2 [(0,1),(1,2)] (.agg [iV a,.str s]) (bo pI dx m 0) 0)=some (.bool (OH nQ (a,s) m)):=fun m a s=>Gg Lo m (a,s)
  have hup:∀(m:List ((Int×aP)×Bool))(a:Int)(s:aP),rD (bo pI dx m 0) m.length (.agg [iV a,.str s]) (.bool true) (ba true 2 [(0,1),(1,2)] (.agg [iV a,.str s]) (bo pI dx m 0) 0)=some (bo pI dx (fC nQ (a,s) true m) 0,(fC nQ (a,s) true m).length):=fun m a s=>KU Lo m (a,s)
  have r1:=VC u.head h1 h5
  have r2:=VC u.words h2 h6
  have r3:=uV u.label h4
  have rr0 b' (h:(mV u)=b':=by first|(rw[mV,hj0,m5];simp only[EQ,bz,pW,cond_true,cond_false,aS,aj,bS,yh,Bool.false_and,Bool.not_true,BH,Bool.true_and, *];first|done|rfl)|(simp only[mV,EQ,bz,pW,cond_true,cond_false,aS,aj,bS, *];done)|(simp only[mV,m5,EQ,bz,pW,cond_true,cond_false,aS,aj,bS, *];done)|(simp only[mV,m5,EQ,bz,pW,cond_true,cond_false,aS,aj,bS,yh,Bool.false_and,Bool.not_true,BH,Bool.true_and, *];first|done|rfl)):=h;exact bB Tryz.func321<|Kj 4 u.kind 0 (fun _ b=>Kn 3 (dP u.label (ByteArray.mk #[]).data.toList) (fun b=>Mt (cM b)<|Mt (cM b)<|Mt (cM b)<|Mt (cM b)<|Mt (cM b)<|Mt (cM b)<|Mt (cM b)<|MV (cM b)<|Ky 1<|rr0 false) fun c=>Kh 0 (ca c)<|Kh 0 (ca c)<|Kl 0 16 (ln aQ u.head)<|Mh (ca c)<|Kh 0 (ca c)<|Kh 0 (ca c)<|Kl 0 19 (ln aQ u.words)<|Mh (ca c)<|Kl 0 20 (Le.wr (x:=Int.ofNat u.head.length+Int.ofNat u.words.length) fy)<|Mh (ca c)<|Kw 0 (ca c)<|Mb (au 0<|Int.ofNat u.head.length+Int.ofNat u.words.length) (fun b=>have:=ap b;Ky 0<|rr0 false) fun c=>have:=aB c;Kl 4 48 (ln aU u.kids)<|Mg 0<|OM aU u.kids ([]:List ((Int×aP)×Bool)) [1,3,47,48,49] (fun b _ c=>([bX 0 0 0 0,AV.map 1,aW<|u.kids.map aU,nV u.kids.length,nV b],[aZ 8 false 0 [av [iV u.act,iV u.item,iV u.n,iV u.kind,ax u.label,aW<|u.head.map aQ,aW<|u.words.map aQ,aW<|u.kids.map aU]],AObj.map (bo pI dx c 0) c.length])) (fun b c=>m5 u.kind u.kids []=m5 u.kind b c) (by rfl) (fun _ _ _ _ _ _ b hj0=>Kh 0 b<|Kl 2 74 (ln aU u.kids)<|Kf 1<|cC<|rr0<|aj<|au 64<|Int.ofNat u.kids.length) fun c _ d _ _ e f g _ i _ j hj0=>have j:=j.trans<|congrArg some<|aO e;Kt 0 i<|Mx j<|Kl 11 59 (pp (k:=IntKind.i64) b)<|Kp 1 (zn 0 e.kind)<|Kn 1 (jV 0 e.kind) (fun b=>Mt (cM b)<|Mt (cM b)<|MV (cM b)<|Ky 1<|rr0 false) fun b=>Kh 0 (ca b)<|Kh 0 (ca b)<|M1 (.look<|ez<|OH nQ (e.kind,e.label) d) (hlk d e.kind e.label)<|My (ca b)<|Mb (OH nQ (e.kind,e.label) d) (fun _=>Kf 0<|cC<|rr0 false) fun _=>K1 1 (.upd (bo pI dx (fC nQ (e.kind,e.label) true d) 0) (fC nQ (e.kind,e.label) true d).length) (hup d e.kind e.label)<|Kl 0 71 (dB c)<|K1 0 (.frz 2 [1,3,47,48,49]) (co (tM (fC nQ (e.kind,e.label) true d).length 2 (by exact cV Lo Ap _ _:fY (bo pI dx (fC nQ (e.kind,e.label) true d) 0)=0)) rt ti)<|Mf<|g (fC nQ (e.kind,e.label) true d)<|by(rw[hj0,m5];simp only[aS,aj,bS, *];done)) fun _ _=>Kp 1 (wI u.kind)<|Kb 1 (dP (dQ u.kind) (ByteArray.mk #[]).data.toList) (fun b=>Mt b<|Mt b<|Mt b<|MV b<|Ky 5<|rr0 false) fun b=>Kh 0 b<|Kh 0 b<|Mp r3<|Mh b<|Kw 0 b<|Kn 0 (kz u.label) (fun b=>Mt (cM b)<|Mt (cM b)<|Mt (cM b)<|MV (cM b)<|Ky 3<|rr0 false) fun b=>Kh 0 (ca b)<|Kh 0 (ca b)<|Mp r1<|Mh (ca b)<|Kw 0 (ca b)<|Kn 0 (oO u.head) (fun b=>Mt (cM b)<|Mt (cM b)<|Mt (cM b)<|MV (cM b)<|Ky 1<|rr0 false) fun b=>Kh 0 (ca b)<|Kh 0 (ca b)<|Mp r2<|Mh (ca b)<|Kw 0 (ca b)<|Mn (oO u.words) (fun _=>Ky 0<|rr0 false) fun _=>Kl 4 48 (ln aU u.kids)<|Mg 0<|OM aU u.kids ([]:List ((Int×aP)×Bool)) [1,3,47,48,49] (fun b _ c=>([bX 0 0 0 0,AV.map 1,aW<|u.kids.map aU,nV u.kids.length,nV b],[aZ 8 false 0 [av [iV u.act,iV u.item,iV u.n,iV u.kind,ax u.label,aW<|u.head.map aQ,aW<|u.words.map aQ,aW<|u.kids.map aU]],AObj.map (bo pI dx c 0) c.length])) (fun b c=>m5 u.kind u.kids []=m5 u.kind b c) (by rfl) (fun _ _ _ _ _ _ b hj0=>Kh 0 b<|Kl 2 74 (ln aU u.kids)<|Kf 1<|cC<|rr0<|aj<|au 64<|Int.ofNat u.kids.length) fun b _ c _ _ d e f _ g _ i hj0=>have i:=i.trans<|congrArg some<|aO d;Kt 0 g<|Mx i<|Kp 13 (zn u.kind d.kind)<|Kn 1 (jV u.kind d.kind) (fun b=>Mt (cM b)<|Mt (cM b)<|MV (cM b)<|Ky 1<|rr0 false) fun g=>Kh 0 (ca g)<|Kh 0 (ca g)<|M1 (.look<|ez<|OH nQ (d.kind,d.label) c) (hlk c d.kind d.label)<|My (ca g)<|Mb (OH nQ (d.kind,d.label) c) (fun _=>Kf 0<|cC<|rr0 false) fun _=>K1 1 (.upd (bo pI dx (fC nQ (d.kind,d.label) true c) 0) (fC nQ (d.kind,d.label) true c).length) (hup c d.kind d.label)<|Kl 0 71 (dB b)<|K1 0 (.frz 2 [1,3,47,48,49]) (co (tM (fC nQ (d.kind,d.label) true c).length 2 (by exact cV Lo Ap _ _:fY (bo pI dx (fC nQ (d.kind,d.label) true c) 0)=0)) rt ti)<|Mf<|f (fC nQ (d.kind,d.label) true c)<|by(rw[hj0,m5];simp only[aS,aj,bS, *];done)
theorem Jn(u:TUnit)(hl:nU u<2^29):kC 101 [eU u,.func (.func 102) [] [.ptr 0 0 0 0]] (aa [.row 1 false 0 [.nils]])
    (fun v h=>∃y:Nat×Nat×List PId,(y.2.1=y.2.2.length/\y.2.2=cH u)/\v=.bool true/\h=aa [rG y.1 y.2.1,Nk y.1 y.2.2]):=by
  have hq:=jQ u
  have hkl:=bg u
  exact qY Tryz.func101 fun a=>K1 3 (.frz 1 [1,2,7,8]) (et rt ti)<|Me (Xw u)<|Kl 4 13 (ln aU u.kids)<|Mg 0<|Vn aU u.kids (0:Nat) (1:Nat) ([aI u]:List PId) [1,12,13,14] (fun a _ b c d=>([bV (bK 102) [] [bX 0 0 0 0],aW<|u.kids.map aU,nV u.kids.length,nV a],[aZ 1 false 0 [aH 1 b 0 c none],aZ 3 true b<|d.map aV])) (fun a _ b c=>b=c.length/\c++gS a=[aI u]++gS u.kids/\c.length+eQ a<2^30) gR (fun _ _ b c d _ _ _ e f=>Kh 0 e<|Kf 0<|a (b,c,d)<|by(refine⟨f.1,?_⟩;have:=f.2.1;rw[ra,ej]at this;rw[this,me];rfl)) fun a _ b c d e f g i j k l _ m _=>have m:=(m).trans<|congrArg some<|aO g;have:=cT (J:=fun a b=>b.2.1=b.2.2.length/\b.2.2++gS a=[aI u]++gS u.kids/\b.2.2.length+eQ a<2^30) (a:=(b,c,d)) k f;have:=aN e k;have e:d.length+nU g<2^30:=(by grind[bf]);Kt 0 l<|Mx m<|K1 4 (.frz 2 [1,12,13,14,18,19]) (co (tR 3 true b 2<|aX JD d) rt ti)<|Mq (N6 g b c d oA e) fun b _=>Kl 2 22 (dB a)<|Kf 0<|j b.1 b.2.1 b.2.2<|by grind[bf,fm,ub]
theorem GM(u:TUnit)(hl:nU u<2^29):kP 63 [eU u] (.ls ((cH u).map aV)):=by
  have rr0 b' (h:((cH u).map aV)=b':=by(rw[hy0.2])):=h;exact bB Tryz.func63<|Mg 4<|M0 (.ren [1,0] [] [3,4,5])<|M1 (.frz 1 [3,4,5]) (et rt ti)<|Mq (Jn u hl) fun a hy0=>Mg 1<|M2 (.fsl 0 [] 2<|a.2.2.map aV) ti (co (aJ a.1) (tA aV a.2.2 a.2.1 (oA:(a.2.2).length=a.2.1))<|aX JD a.2.2)<|Ml 2 (fw (a.2.2.map aV) false<|aX JD a.2.2)<|Mf<|cY<|rr0<|a.2.2.map aV
theorem Xk(u:TUnit)(hl:nU u<2^20):kP 322 [eU u] (.bool (Q1 u)):=by
  have hb:(cH u).length<2^20:=by grind[ub]
  have hi:=GM u (by omega)
  have hlk:∀(m:List (PId×Bool))(a b c:Int),eM (some (.bool false)) false (ba true 3 [(0,1),(1,1),(2,1)] (.agg [iV a,iV b,iV c]) (bo aV dx m 0) 0)=some (.bool (OH bW ⟨a,b,c⟩ m)):=fun m a b c=>Gg Jk m ⟨a,b,c⟩
  have hup:∀(m:List (PId×Bool))(a b c:Int),rD (bo aV dx m 0) m.length (.agg [iV a,iV b,iV c]) (.bool true) (ba true 3 [(0,1),(1,1),(2,1)] (.agg [iV a,iV b,iV c]) (bo aV dx m 0) 0)=some (bo aV dx (fC bW ⟨a,b,c⟩ true m) 0,(fC bW ⟨a,b,c⟩ true m).length):=fun m a b c=>KU Jk m ⟨a,b,c⟩
  have rr0 b' (h:(Q1 u)=b':=by((try clear gh1);(try clear gh2);(try clear gh3);(try clear gh4);(try clear gh5);(try clear gh6);(try clear gh7);have e:=C8 (kenc:=aV) (f:=dx) za0 0;simp only[e,lM]at *;simp only[Q1,fD,bW,aI,bM,hj0,M9,aS,aj,bS, *];first|done|rfl)):=h;exact bB Tryz.func322<|Kp 2 hi<|Kl 4 12 (ln aV<|cH u)<|Mg 0<|OM aV (cH u) ([]:List (PId×Bool)) [1,3,4,11,12,13] (fun d _ g=>([bX 0 0 0 0,aW<|(cH u).map aV,AV.map 1,aW<|(cH u).map aV,nV (cH u).length,nV d],[aZ 8 false 0 [av [iV u.act,iV u.item,iV u.n,iV u.kind,ax u.label,aW<|u.head.map aQ,aW<|u.words.map aQ,aW<|u.kids.map aU]],AObj.map (bo aV dx g 0) g.length])) (fun d g=>Cq (cH u) []=Cq d g) (by rfl) (fun _ _ za0 _ _ _ d hj0=>Kh 0 d<|K1 1 (.look<|ez<|OH bW (PId.mk 0 0 0) za0) (hlk za0 0 0 0)<|Kb 2 (OH bW (PId.mk 0 0 0) za0) (fun d=>Kt 0 d<|Kt 0 d<|Ku 0 d<|Kj 0 (Int.ofNat (bo aV dx za0 0).length) 1 (fun d gh2=>Mt d<|Mt d<|Mt d<|Mt d<|Mt d<|Mt d<|MV d<|Ky 0<|rr0 true) fun d gh2=>Kh 0 d<|Kh 0 d<|Kh 0 d<|Kh 0 d<|Kh 0 d<|Kj 0 (Int.ofNat (bo aV dx za0 0).length) (Int.ofNat ((cH u).map aV).length) (fun g gh3=>Kt 0 g<|Kt 0 g<|Kt 0 g<|Kt 0 g<|Kt 0 g<|Kt 0 g<|Mv (lQ ((Tryz.prog).underlying 26) u.act u.item u.n 0 0 0 h0)<|Mt g<|Kh 0 d<|MV g<|My d<|Kf 0<|cC<|rr0<|ab u.kind 0==(ab u.act 0&&(ab u.item 0&&ab u.n 0))) fun g gh3=>Mh g<|Mh g<|Mh g<|Mh g<|Mh g<|Mh g<|Mh g<|Mh d<|My g<|My d<|Ky 0<|rr0 false) fun d=>Mh d<|Mh d<|My d<|Kj 6 (Int.ofNat (bo aV dx za0 0).length) (Int.ofNat ((cH u).map aV).length) (fun d gh4=>Kt 0 d<|Kt 0 d<|Kt 0 d<|Kt 0 d<|Kt 0 d<|Kt 0 d<|Mv (lQ ((Tryz.prog).underlying 26) u.act u.item u.n 0 0 0 h0)<|Mt d<|Ku 0 d<|Kf 1<|cC<|rr0<|ab u.kind 0==(ab u.act 0&&(ab u.item 0&&ab u.n 0))) fun d gh4=>Mh d<|Mh d<|Mh d<|Mh d<|Mh d<|Mh d<|Mh d<|My d<|Ky 1<|rr0 false) fun d _ za0 _ _ g i j _ k _ l hj0=>Kt 0 k<|Mx l<|K1 4 (.upd (bo aV dx (fC bW (PId.mk g.a g.i g.n) true za0) 0) (fC bW (PId.mk g.a g.i g.n) true za0).length) (hup za0 g.a g.i g.n)<|Kl 0 19 (iT d)<|K1 0 (.frz 2 [1,3,4,11,12,13]) (co (tM (fC bW (PId.mk g.a g.i g.n) true za0).length 2 (by exact cV Jk Ap _ _:fY (bo aV dx (fC bW (PId.mk g.a g.i g.n) true za0) 0)=0)) rt ti)<|Mf<|j (fC bW (PId.mk g.a g.i g.n) true za0)<|by(rw[hj0];rfl)
def rT(x:TUnit):Prop:=x.head.length<=300/\x.words.length<=300/\x.label.length<=2^39/\(∀w,w∈x.head->w.text.length<=2^39)/\∀w,w∈x.words->w.text.length<=2^39
def mF(u:TUnit):Prop:=nU u<=2^19/\∀x,x∈bU u->rT x
theorem Hv(u:TUnit)(h:mF u):kP 101 [eU u,.func (.func 321) [] []] (.bool (wX mV u)):=
  LL 321 mV u
    (fun x hx=>by
      obtain⟨a,b,c,d,e⟩:=h.2 x hx
      have h1:=bg x
      have h2:=dA hx
      have h3:=h.1
      grind[Sn])
    (by have h1:=bg u;have h3:=h.1;omega)
    (fun x hx=>by
      have h1:=bg x
      have h2:=dA hx
      have h3:=h.1
      omega)
theorem xD(u:TUnit)(h:mF u):kP 288 [eU u] (.bool (kL u)):=by
  have h1:=h.1
  have e1:=Hv u h
  have e2:=HB u (by omega)
  have e3:=En u (by omega)
  have e4:=Xk u (by omega)
  have hd:=El u
  have rr0 b' (h:(kL u)=b':=by(simp only[kL,aS,aj,bS, *];done)):=h;exact bB Tryz.func288<|Kp 2 e1<|Kb 0 (wX mV u) (fun a=>Kt 0 a<|Mp e2<|Mt a<|Ku 0 a<|Kn 0 (au 8<|Int.ofNat<|nJ u) (fun a=>Kt 0 (cM a)<|Mp e3<|Mt (cM a)<|Ku 0 (cM a)<|Kn 0 (au 1024<|Int.ofNat<|nU u) (fun a=>Kt 0 (cM a)<|Mp e4<|MV (cM a)<|Kf 0<|cC<|rr0<|Q1 u) fun a=>Mh (ca a)<|My (ca a)<|Ky 0<|rr0 false) fun a=>Mh (ca a)<|Mh (ca a)<|My (ca a)<|Ky 2<|rr0 false) fun a=>Mh a<|Mh a<|My a<|Ky 4<|rr0 false
theorem rl(l:List PWord)(hl:l.length<2^30):kP 99 [.ls (l.map aQ)] (.ls (l.map aQ)):=by
  cases l with
  |nil=>exact aT.ls0 (SQ.less Le.nils) (R9.lessB (u:=.ls []) (by kernel_rfl))
  |cons w r=>grind[SZ]
noncomputable abbrev wz:AObj:=.row 8 false 0 [.agg [iV 0,iV 0,iV 0,iV 0,.str [],.nils,.nils,.nils]]
theorem HF:∀(u:TUnit),nU u<=2^20->(∀x,x∈bU u->x.head.length<2^30/\x.words.length<2^30)->kP 59 [eU u] (eU u):=by
  refine TUnit.ind fun u ih hn ht=>?_
  have hkl:=bg u
  have c1:=rl u.head (ht u (cS u)).1
  have c2:=rl u.words (ht u (cS u)).2
  have ihk:∀k,k∈u.kids->kP 59 [eU k] (eU k):=fun k hk=>ih k hk (bH (oM (ig hk)) hn) (fun x hx=>ht x (bv hk hx))
  have rr0 b' (h:(u.kids.map aU)=b':=by first|rfl|(rw[<-hj0];rfl)|(rw[<-hj0.2.2.1,ej])):=h;let q1:=List.map aQ u.words;let q2:=List.map aQ u.head;exact bB Tryz.func59<|Kp 3 c1<|Kp 1 c2<|Kl 7 16 (ln aU u.kids)<|Mg 0<|mQ Nat Nat (List TUnit) aU u.kids [1,2,3,15,16,17] (fun a _=>([bX 0 0 0 0,bX 1 0 0 0,ak,aW<|u.kids.map aU,nV u.kids.length,nV a],[aZ 8 false 0 [av [iV u.act,iV u.item,iV u.n,iV u.kind,ax u.label,aW<|u.head.map aQ,aW<|u.words.map aQ,aW<|u.kids.map aU]],aZ 8 false 0 [av [iV 0,iV 0,iV 0,iV 0,ax [],ak,ak,ak]]])) (fun a _ b c d=>([bX 0 0 0 0,bX 1 0 0 0,aH 2 b 0 c none,aW<|u.kids.map aU,nV u.kids.length,nV a],[aZ 8 false 0 [av [iV u.act,iV u.item,iV u.n,iV u.kind,ax u.label,aW<|u.head.map aQ,aW<|u.words.map aQ,aW<|u.kids.map aU]],aZ 8 false 0 [av [iV 0,iV 0,iV 0,iV 0,ax [],ak,ak,ak]],aZ 8 true b<|d.map aU])) (fun a=>a=u.kids) (fun a _ b c=>b=c.length/\(0:Nat)<c.length/\c++a=u.kids/\c.length+a.length=u.kids.length) (by rfl) (fun _ _ _ _ _ a hj0=>Kh 0 a<|Kl 0 27 bA<|Kf 3 (aM (lc<|lc<|lc<|lc<|lc<|lc<|lc<|.cons (cY<|rr0 []) .nil)<|by kernel_rfl:Le _ (AV.agg [iV u.act,iV u.item,iV u.n,iV u.kind,AV.str u.label,AV.ls q2,AV.ls q1,AV.ls []]))) (fun a _ _ b c d _ e f g _ i _=>have i:=(i).trans<|congrArg some<|aO c;have hj0:=cT (J:=fun a _=>a=u.kids) (a:=()) f b;Kt 0 g<|Mx i<|Kp 4 (ihk c gR)<|K1 1 (.obj 3<|aZ 8 true 0<|List.map aU [c]) (congrArg (aZ 8 true 0)<|T9 (f:=aU) (g:=Go.Ev.eU) (ws:=[c]) aO)<|Kl 1 26 (dB a)<|K1 0 (.ren [0,1,3,2] [3] [1,2,3,15,16,17]) (tS 8 true 0<|aX gT [c])<|M1 (.frz 3 [1,2,3,15,16,17]) (ju (tR 8 true 0 3<|aX gT [c]) rt rt ti)<|Mf<|e 0 1 [c]<|by(refine⟨rfl,by simp,?_,?_⟩<;>(rw[<-hj0])<;>(first|rfl|grind))) (fun _ _ a b c _ _ _ d hj0=>let e:=List.map aU c;Kh 0 d<|Mg 0<|M2 (.fsl 2 [1,2] 27 e) (co rt rt ti) (co (aJ a) (tA aU c b (oA:(c).length=b))<|aX gT c)<|Ml 27 (fw e false<|aX gT c)<|Kf 3 (aM (lc<|lc<|lc<|lc<|lc<|lc<|lc<|.cons (cY<|rr0 e) .nil)<|by kernel_rfl:Le _ (AV.agg [iV u.act,iV u.item,iV u.n,iV u.kind,AV.str u.label,AV.ls q2,AV.ls q1,AV.ls e]))) fun a _ b c d _ e f g _ i j l _ n _=>have n:=(n).trans<|congrArg some<|aO f;have hj0:=cT (J:=fun a b=>b.2.1=b.2.2.length/\(0:Nat)<b.2.2.length/\b.2.2++a=u.kids/\b.2.2.length+a.length=u.kids.length) (a:=(b,c,d)) j e;Kt 0 l<|Mx n<|Kp 4 (ihk f gR)<|K1 0 .app (co (aJ b) (sA:c=(d.map aU).length) (by(refine aD (m:=2^21) ?_ ?_ ?_<;>omega):small (c+1) 120=true))<|M1 (.obj 2<|aZ 8 true (b+1)<|(d++[f]).map aU) (congrArg (aZ 8 true<|b+1)<|yQ (f:=aU) (g:=Go.Ev.eU) (l:=d) (ws:=[f]) aO)<|Kl 1 26 (dB a)<|K1 0 (.frz 3 [1,2,3,15,16,17]) (ju (tR 8 true (b+1) 3<|aX gT<|d++[f]) rt rt ti)<|Mf<|i (b+1) (c+1) (d++[f])<|by(refine⟨by simp_all,by simp,?_,?_⟩<;>first|(rw[<-hj0.2.2.1];simp;done)|grind)
theorem Xl(p:PId)(u:TUnit)(h:By (bp p u) true)(hn:nU u<=2^20)(ht:∀x,x∈bU u->x.head.length<2^30/\x.words.length<2^30):kP 21 [eU u,aV p] (.tuple [eU (bT p u),.bool true]):=by
  have hw:=Fw p u h hn
  have hlen:=mj (p:=p) u
  have hpos:0<(aC p u).length:=qW.2 (jg h)
  have hm:bT p u∈bU u:=KY u _ (Rd h)
  have hf:bT p u=gD (aC p u) ((aC p u).length -1):=by unfold bT;simp_all
  have hc:=HF (bT p u) (bH (dA hm) hn) (fun x hx=>ht x (by
    grind[dl]))
  rw[hf]at hc ⊢
  have hz:=Rt hpos
  exact bB Tryz.func21<|Kp 5 hw<|Kl 2 11 (ln aU<|aC p u)<|Kh 0 hz<|Kl 2 16 (ln aU<|aC p u)<|Kl 0 17 (E8 (aC p u).length)<|Mx ((bQ aU (oA:(aC p u).length -1<(aC p u).length)).trans<|congrArg some<|aO _)<|Kp 0 hc<|Kf 1<|bx<|b8 [av [iV (gD (aC p u)<|(aC p u).length -1).act,iV (gD (aC p u)<|(aC p u).length -1).item,iV (gD (aC p u)<|(aC p u).length -1).n,iV (gD (aC p u)<|(aC p u).length -1).kind,ax (gD (aC p u)<|(aC p u).length -1).label,aW<|List.map aQ (gD (aC p u)<|(aC p u).length -1).head,aW<|List.map aQ (gD (aC p u)<|(aC p u).length -1).words,aW<|List.map aU (gD (aC p u)<|(aC p u).length -1).kids],ez true]
theorem Xn(p:PId)(u:TUnit)(h:By (bp p u) false)(hn:nU u<=2^20):kP 21 [eU u,aV p] (.tuple [eU bd,.bool false]):=by
  have hw:=KV p u h hn
  exact bB Tryz.func21<|Kp 5 hw<|Kf 7 (cp<|.cons (aM (lc<|lc<|lc<|lc<|lc<|.cons bA<|.cons bA<|.cons bA .nil)<|by kernel_rfl)<|lc .nil:Le _ (b8 [av [iV 0,iV 0,iV 0,iV 0,ax [],ak,ak,ak],ez false]))
theorem Rc(p:PId)(u:TUnit)(hn:nU u<=2^20)(ht:∀x,x∈bU u->x.head.length<2^30/\x.words.length<2^30):kP 21 [eU u,aV p] (.tuple [eU (bT p u),.bool (bp p u)]):=by
  cases h:bp p u with
  |true=>grind[Xl]
  | false=>
    have:=Xn p u h hn
    rwa[show bd=bT p u by unfold bT;simp_all]at this
theorem ifW(l:List PWord)(g:Nat)(q:PWord->Bool)(hp:∀k,k∈l->kP g [aQ k] (.bool (q k)))(hl:l.length<2^40):kP 323 [.ls (l.map aQ),.func (.func g) [] []] (iV (dn q l 0)):=by
  have rr0 b' (h:(dn q l 0)=b':=by first|exact md zd0 hr0 hj0 ‹_› |exact hj0):=h;exact bB Tryz.func323<|Kl 2 7 (ln aQ l)<|Mg 0<|vZ aQ l [0,1,7,8] (fun a _=>([aW<|l.map aQ,bV (bK g) [] [],nV l.length,nV a],[])) (fun a=>dn q l (0:Nat)=dn q a (l.length-a.length)) sA (fun _ _ zd0 _ hr0 a hj0=>Kh 0 a<|Kf 0<|li<|rr0 (-1)) fun a _ zd0 _ b c d hr0 e _ f hj0=>Kt 0 e<|Kx 4 f<|Kp 0 (hp b<|by exact aN zd0 hr0)<|Mb (q b) (fun _=>Kf 1<|li<|rr0<|Int.ofNat a) fun _=>Kl 0 18 (dB a)<|Kf 0<|d<|by exact kj zd0 hr0 hj0 (by omega)
theorem cfW(l:List PWord)(g:Nat)(q:PWord->Bool)(hp:∀k,k∈l->kP g [aQ k] (.bool (q k)))(hl:l.length<2^40):kP 291 [.ls (l.map aQ),.func (.func g) [] []] (.bool (l.any q)):=by
  have h:=ifW l g q hp hl
  have rr0 b' (h:(l.any q)=b':=by(rw[lu];simp only[aS,aj,bS,nM])):=h;exact bB Tryz.func291<|Kp 2 h<|Kf 1<|cC<|rr0<|aj<|au (dn q l 0) 0
theorem CA(w:PWord):kP 290 [aQ w] (.bool (pY w)):=by
  exact bB Tryz.func290<|Kv 4 (Gv ((Tryz.prog).underlying 123) w.act w.item w.at_ 0 0 0<|aa [aZ 4 false 0 [av [ax w.text,iV w.act,iV w.item,iV w.at_]]])<|Kf 0<|bx<|ez<|aj<|ab w.act 0&&(ab w.item 0&&ab w.at_ 0)
theorem Sw(u:TUnit)(h1:u.head.length<2^40)(h2:u.words.length<2^40):kP 289 [eU u] (.bool (Dv u)):=by
  have c1:=cfW u.head 290 pY (fun k _=>CA k) h1
  have c2:=cfW u.words 290 pY (fun k _=>CA k) h2
  have rr0 b' (h:(Dv u)=b':=by(simp only[Dv,fD,bW,aI,bM,aS,aj,bS, *];first|done|rfl)):=h;exact bB Tryz.func289<|Kv 5 (lQ ((Tryz.prog).underlying 26) u.act u.item u.n 0 0 0<|aa [aZ 8 false 0 [av [iV u.act,iV u.item,iV u.n,iV u.kind,ax u.label,aW<|u.head.map aQ,aW<|u.words.map aQ,aW<|u.kids.map aU]]])<|Kb 0 (ab u.act 0&&(ab u.item 0&&ab u.n 0)) (fun a=>Kt 0 a<|Kt 0 a<|Kt 0 a<|Mp c1<|Mt a<|Ku 0 a<|Kn 0 (u.head.any pY) (fun a=>Kt 0 (cM a)<|Kt 0 (cM a)<|Kt 0 (cM a)<|Mp c2<|Mt (cM a)<|Ku 0 (cM a)<|Kf 0<|cC<|rr0<|aj<|u.words.any pY) fun a=>Mh (ca a)<|Mh (ca a)<|Mh (ca a)<|Mh (ca a)<|My (ca a)<|Ky 0<|rr0 false) fun a=>Mh a<|Mh a<|Mh a<|Mh a<|My a<|Ky 2<|rr0 false
theorem X8(u:TUnit)(h:mF u):kP 255 [eU u] (.bool (H4 u)):=by
  have e1:=xD u h
  have e2:=LL 289 Dv u (fun x hx=>by
      obtain⟨a,b,_⟩:=h.2 x hx
      grind[Sw]) (by have h1:=bg u;have h3:=h.1;omega) (fun x hx=>by
      have h1:=bg x
      have h2:=dA hx
      have h3:=h.1
      omega)
  have rr0 b' (h:(H4 u)=b':=by(simp only[H4,aS,aj,bS, *];first|done|rfl)):=h;exact bB Tryz.func255<|Kp 2 e1<|Kb 0 (kL u) (fun c=>Kt 0 c<|Mp e2<|MV c<|Kf 0<|cC<|rr0<|wX Dv u) fun c=>Mh c<|My c<|Ky 0<|rr0 false
theorem Ny(p:PId)(u:TUnit)(hh:bp p u=false)(hn:nU u<=2^20):kP 184 [eU u,aV p] (.tuple [aV bM,iV (-1),.bool false]):=by
  have hw:=KV p u hh hn
  exact bB Tryz.func184<|Kp 6 hw<|Kf 8<|bx<|b8 [av [iV 0,iV 0,iV 0],iV (-1),ez false]
theorem Nv(p:PId)(u:TUnit)(hh:bp p u=true)(hl:au (Int.ofNat (aC p u).length) 2=true)(hn:nU u<=2^20):kP 184 [eU u,aV p] (.tuple [aV bM,iV (-1),.bool false]):=by
  have hw:=Fw p u hh hn
  exact bB Tryz.func184<|Kp 6 hw<|Kl 2 14 (ln aU<|aC p u)<|Kt 0 hl<|Kf 3<|bx<|b8 [av [iV 0,iV 0,iV 0],iV (-1),ez false]
theorem PS(p:PId)(u:TUnit)(h:jU p u=false)(hn:nU u<=2^20):kP 184 [eU u,aV p] (.tuple [aV bM,iV (-1),.bool false]):=by
  grind[Ny,Nv,jU]
theorem PP(p:PId)(u:TUnit)(h:jU p u=true)(hn:nU u<=2^20):kP 184 [eU u,aV p] (.tuple [aV (rE p u),iV (qg p u),.bool true]):=by
  have hl:au (Int.ofNat (aC p u).length) 2=false:=by grind[jU]
  have hl2:2<=(aC p u).length:=by have:=aB hl;grind
  have hh:bp p u=true:=by
    cases e:bp p u with
    |true=>rfl
    |false=>grind[Q4]
  have hw:=Fw p u hh hn
  have hlen:=mj (p:=p) u
  have hm:Ie p u∈bU u:=KY u _ (gY (by omega))
  have hkn:∀k,k∈(Ie p u).kids->nU k<=2^20:=fun k hk=>bH (dA (dl hm (Ln hk))) hn
  have hkl:(Ie p u).kids.length<2^40:=by have:=bg (Ie p u);have:=dA hm;omega
  have hi:=aaf (Ie p u).kids 253 p (bp p) (fun k hk=>by
    grind[bp,Na,Nb]) hkl
  rw[I4 h,I5 h]
  generalize hG:Ie p u=y at *
  have hG2:gD (aC p u) ((aC p u).length -2)=y:=hG
  have rr0 b' (h:((aI y).a)=b':=by(rw[hG2];rfl)):=h;have rr1 b' (h:((aI y).i)=b':=by(rw[hG2];rfl)):=h;have rr2 b' (h:((aI y).n)=b':=by(rw[hG2];rfl)):=h;exact bB Tryz.func184<|Kp 6 hw<|Kl 2 14 (ln aU<|aC p u)<|Kh 0 hl<|Kl 2 19 (ln aU<|aC p u)<|Kl 0 20 (b6 (x:=Int.ofNat (aC p u).length -(2:Int)) (n:=(aC p u).length -2) fy)<|Mx ((bQ aU (oA:(aC p u).length -2<(aC p u).length)).trans<|congrArg some<|aO _)<|Mg 5<|M0 (.ren [2,3,0,1] [] [4,8,24,25])<|M1 (.frz 2 [4,8,24,25]) (co rt rt ti)<|Mp (aT.onArgs (.cons (cY (by(rw[hG2];done):(y.kids.map aU)=(List.map aU (gD (aC p u) ((aC p u).length -2)).kids)))<|lc .nil) hi:kP 252 [aW (List.map aU (gD (aC p u) ((aC p u).length -2)).kids),bV (bK 253) [] [AV.pptr [av [iV p.a,iV p.i,iV p.n]] 0 0]] _)<|Kf 6 (cp<|.cons (aM (.cons (li<|rr0 (gD (aC p u)<|(aC p u).length -2).act)<|.cons (li<|rr1 (gD (aC p u)<|(aC p u).length -2).item)<|.cons (li<|rr2 (gD (aC p u)<|(aC p u).length -2).n) .nil)<|by kernel_rfl)<|lc<|lc .nil:Le _ (b8 [av [iV (gD (aC p u) ((aC p u).length -2)).act,iV (gD (aC p u) ((aC p u).length -2)).item,iV (gD (aC p u) ((aC p u).length -2)).n],iV (dn (bp p) y.kids 0),ez true]))
theorem PR(p:PId)(u:TUnit)(hn:nU u<=2^20):kP 184 [eU u,aV p] (.tuple [aV (rE p u),iV (qg p u),.bool (jU p u)]):=by
  grind[jU,PP,Ws,P0,PS]
theorem Zh(p:PId)(u:TUnit)(h:bp p u=false)(hn:nU u<=2^20):kP 240 [eU u,aV p] (.ls ((mg p u).map aV)):=by
  have hw:=KV p u h hn
  have e:mg p u=[]:=by unfold mg;rw[Ax h];rfl
  rw[e]
  let q:=[aZ 8 false 0 [av [iV u.act,iV u.item,iV u.n,iV u.kind,ax u.label,aW (u.head.map aQ),aW (u.words.map aQ),aW (u.kids.map aU)]],aZ 3 false 0 [av [iV p.a,iV p.i,iV p.n]]];let q1:=[ak,ak,iV (IntKind.i64.wrap (0-2))];exact bB Tryz.func240<|Kp 5 hw<|Mg 4<|Zr [5,6,7] (q1,q) True 0 ti fun _ _=>Kf 4 bA
theorem Zg(p:PId)(u:TUnit)(h:bp p u=true)(hn:nU u<=2^20):kP 240 [eU u,aV p] (.ls ((mg p u).map aV)):=by
  have hw:=Fw p u h hn
  have hlen:=mj (p:=p) u
  have hpos:0<(aC p u).length:=qW.2 (jg h)
  have hac:=Da p u
  have rr0 b' (h:((mg p u).map aV)=b':=by first|rfl|(rw[Si hx0 ‹_›];rfl)|(rw[Sl hx0.2.1 oA ‹_›])):=h;exact bB Tryz.func240<|Kp 5 hw<|Kl 0 6 (fw ((aC p u).map aU) false<|aX gT<|aC p u)<|Kl 1 12 (ln aU<|aC p u)<|Kl 0 13 (Le.wr (x:=Int.ofNat (aC p u).length -2) fy)<|K1 0 (.frz 0 [5,6,7]) ti<|SF Int Nat Nat (List PId) (Int.ofNat (aC p u).length -2) [5,6,7] (fun a=>([ak,aW<|(aC p u).map aU,iV a],[])) (fun a b c d=>([aH 0 b 0 c none,aW<|(aC p u).map aU,iV a],[aZ 3 true b<|d.map aV])) (fun a=>a=Int.ofNat (aC p u).length -(2:Int)) (fun a _ b c=>b=c.length/\c=oC p u (a+(1:Int)).toNat/\((-1):Int)<=a/\a+(2:Int)<=↑(aC p u).length/\c.length<=(aC p u).length) (fun a=>(a+1).toNat) (fun a _ _ _=>(a+1).toNat) (by rfl) (fun a hx0 _ b=>have hx0:=hx0;Kd 1 a 0 (fun _ _=>Kl 2 20 (BU (x:=a) oA)<|Mx ((bQ aU (gR:a.toNat<(aC p u).length)).trans<|congrArg some<|aO _)<|Kl 6 17 (Le.wr (x:=a-1) fy)<|Kf 0<|b (a-1) 0 1 [PId.mk (gD (aC p u) a.toNat).act (gD (aC p u) a.toNat).item (gD (aC p u) a.toNat).n] (by exact⟨rfl,Od hx0 (by omega),by omega,by grind,by grind⟩) oA) fun _ _=>Kf 1 (Le.lsn<|rr0 []:Le _ (ak))) fun a b c d hx0 _ e=>have hx0:=hx0;Kd 1 a 0 (fun _ _=>Kl 2 20 (BU (x:=a) oA)<|Mx ((bQ aU (oA:a.toNat<(aC p u).length)).trans<|congrArg some<|aO _)<|K1 2 .app (co (aJ b) (sA:c=(d.map aV).length) (by(refine aD (m:=2^21) ?_ ?_ ?_<;>omega):small (c+1) 24=true))<|M1 (.obj 0<|aZ 3 true (b+1)<|(d++[PId.mk (gD (aC p u) a.toNat).act (gD (aC p u) a.toNat).item (gD (aC p u) a.toNat).n]).map aV) (congrArg (aZ 3 true<|b+1)<|dw (f:=aV) (l:=d) (ws:=[PId.mk (gD (aC p u) a.toNat).act (gD (aC p u) a.toNat).item (gD (aC p u) a.toNat).n]))<|Kl 2 17 (Le.wr (x:=a-1) fy)<|Kf 0<|e (a-1) (b+1) (c+1) (d++[PId.mk (gD (aC p u) a.toNat).act (gD (aC p u) a.toNat).item (gD (aC p u) a.toNat).n]) (by exact⟨by simp_all,IQ hx0.2.1 hx0.2.2.2.1 (by omega),by omega,by omega,by(have z:=IQ hx0.2.1 hx0.2.2.2.1 (by omega);grind)⟩) oA) fun _ _=>Mg 1<|M2 (.fsl 0 [] 4<|d.map aV) ti (co (aJ b) (tA aV d c (oA:(d).length=c))<|aX JD d)<|Ml 4 (fw (d.map aV) false<|aX JD d)<|Mf<|cY<|rr0<|d.map aV
theorem H9(p:PId)(u:TUnit)(hn:nU u<=2^20):kP 240 [eU u,aV p] (.ls ((mg p u).map aV)):=by
  grind[Zg,Zh]
end Go.Proofs.YtdhkhecalpkngaaGreatDoor
