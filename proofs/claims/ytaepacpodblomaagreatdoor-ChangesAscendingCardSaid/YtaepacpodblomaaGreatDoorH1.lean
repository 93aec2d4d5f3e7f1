/- Functions walked: what each of them answers, for Every change day is a breakpoint, both lists rise, and Next enumerates the change days: part 1. Conditions: those that each theorem names. -/
import Derived.Test.YtaepacpodblomaaGreatDoorCmb
import Derived.Test.YtaepacpodblomaaGreatDoorLay
import Derived.Test.YtaepacpodblomaaGreatDoorLay2
namespace Go.Proofs.YtaepacpodblomaaGreatDoor
open Go Go.Ev
noncomputable abbrev cb:=@Le.bool
noncomputable abbrev aW:=@AV.ls
noncomputable abbrev ab:=@AV.agg
noncomputable abbrev ax:=@AV.str
noncomputable abbrev bU:=@AV.func
noncomputable abbrev bY:=@Fn.func
noncomputable abbrev fg:=@Le.ps
noncomputable abbrev jq:=@AV.ps
noncomputable abbrev bi:=@Le.refl
noncomputable abbrev dT:=@AV.bool
noncomputable abbrev cC:=@Le.tuple
noncomputable abbrev bO:=@AV.tuple
noncomputable abbrev af:=@AV.nils
noncomputable abbrev aZ:=@AObj.row
noncomputable abbrev fk:=@Sb
noncomputable abbrev bz:=@AV.ptr
noncomputable abbrev aM:=@AV.slice
noncomputable abbrev bI:=@Le.nils
noncomputable abbrev ZS:=@ARes.val
noncomputable def pT(x:PWord):Bool:=ak (ap 100 (.ofNat x.text.length))
noncomputable def ml(ws:List PWord):Bool:=ws.all pT&&ak (ap 300 (.ofNat ws.length))
theorem Ga(x:Int):kP 80 [iV x] (.bool false):=by
  have rr0 b' (h:(false)=b':=by simp[bw]):=h;exact wk Tryz.func80 (.go 4 .fin)<|cb<|rr0<|ak<|ah x x
theorem pY(x y:Int):kP 66 [iV x,iV y] (iV (jj x y)):=by
  have rr0 b' (h:(jj x y)=b':=by simp[jj, *]):=h;exact bH Tryz.func66<|Kp 1 (Ga x)<|Kp 1 (Ga y)<|Kb 7 (ap x y) (fun _=>Kf 0<|li<|rr0 (-1)) fun _=>Kb 2 (ap y x) (fun _=>Kf 0<|li<|rr0 1) fun _=>Kf 0<|li<|rr0 0
theorem Fy(ws:List PWord)(hl:ws.length<2^60):kP 141 [.ls (ws.map aQ)] (.bool (ml ws)):=by
  have rr0 b' (h:(ml ws)=b':=by simp only[ml,pT,aS,ak,bS, *]):=h;exact bH Tryz.func141<|Mg 1<|vP aQ ws [0,3] (fun a _=>([aW<|ws.map aQ,nV a],[])) (fun a=>ws.all pT=a.all pT) (by rfl) (fun _ _ _ _ _ a _=>Kl 2 6 (ln aQ ws)<|Kh 0 a<|Kl 1 18 (ln aQ ws)<|Kf 1<|cb<|rr0<|ak<|ap 300<|Int.ofNat ws.length) fun a _ _ _ b c d _ e _ f _=>Kl 2 6 (ln aQ ws)<|Kt 0 e<|Kx 1 f<|Ka 3 100 (Int.ofNat<|List.length b.text) (fun _ _=>Ky 0<|rr0 false) fun _ _=>Kl 1 9 (dV a)<|Kf 0<|d<|by simp_all[pT]
mutual
noncomputable def ki:TUnit→Bool
  |⟨_,_,_,_,label,h,w,kids⟩=>ak (ap 30 (.ofNat label.length))&&ml h&&ml w&&ya kids
noncomputable def ya:List TUnit→Bool
  |[]=>true
  |u::r=>ki u&&ya r
end
theorem BE:∀(l:List TUnit),ya l=l.all ki
  |[]=>by rw[ya];rfl
  |u::r=>by rw[ya,BE r];rfl
theorem BF(u:TUnit):ki u=(ak (ap 30 (.ofNat u.label.length))&&ml u.head&&ml u.words&&u.kids.all ki):=by
  obtain⟨a,b,c,d,e,f,g,h⟩:=u
  rw[ki,BE];rfl
theorem Og:∀(u:TUnit),jo u→kP 109 [eU u] (.bool (ki u)):=by
  refine TUnit.ind fun u ih hf=>?_
  obtain⟨f1,f2,f3,f4⟩:=oZ.1 hf
  have rr0 b' (h:(ki u)=b':=by rw[BF];simp only[aS,ak,bS, *]):=h;exact bH Tryz.func109<|Ka 6 30 (Int.ofNat<|List.length u.label) (fun a _=>Mt a<|Mt a<|Mt a<|MV a<|Ky 3<|rr0 false) fun a _=>Kh 0 a<|Kh 0 a<|Mp (Fy u.head f1)<|Mh a<|Kw 0 a<|Kn 0 (ml u.head) (fun a=>Mt (cH a)<|Mt (cH a)<|Mt (cH a)<|MV (cH a)<|Ky 1<|rr0 false) fun a=>Kh 0 (bR a)<|Kh 0 (bR a)<|Mp (Fy u.words f2)<|Mh (bR a)<|Kw 0 (bR a)<|Mn (ml u.words) (fun _=>Ky 0<|rr0 false) fun _=>K1 0 (.frz 0 [1,3]) ti<|vP aK u.kids [1,3] (fun a _=>([AV.pptr [ab [iV u.act,iV u.item,iV u.n,iV u.kind,ax u.label,aW<|u.head.map aQ,aW<|u.words.map aQ,aW<|u.kids.map aK]] 0 0,nV a],[])) (fun a=>u.kids.all ki=a.all ki) (by rfl) (fun _ _ _ _ _ a _=>Kl 3 23 (ln aK u.kids)<|Kh 0 a<|Ky 0<|rr0 true) fun a _ b _ c d e f g _ i _=>have i:=i.trans<|congrArg some<|aT c;Kl 3 23 (ln aK u.kids)<|Kt 0 g<|Kx 2 i<|Kp 0 (ih c (by exact aR b f)<|by exact f4 _ (aR b f))<|Kn 0 (ki c) (fun _=>Kf 0<|cb<|rr0 false) fun _=>Kl 1 26 (dV a)<|Kf 0<|e sA
mutual
noncomputable def mg:TUnit→Int→Int→Int
  |⟨_,_,_,_,_,_,_,kids⟩,deep,most=>match ap 20 deep with|true=>most+1|false=>mh kids deep most 1
noncomputable def mh:List TUnit→Int→Int→Int→Int
  |[],_,_,n=>n
  |k::r,deep,most,n=>match ap most n with|true=>n|false=>mh r deep most (n+mg k (deep+1) (most-n))
end
theorem PW(u:TUnit)(deep most:Int):mg u deep most=match ap 20 deep with|true=>most+1|false=>mh u.kids deep most 1:=by
  obtain⟨a,b,c,d,e,f,g,h⟩:=u;rw[mg];rfl
mutual
theorem Fw:∀(u:TUnit)(deep most:Int),0≤most→1≤mg u deep most∧mg u deep most≤most+1
  | ⟨_,_,_,_,_,_,_,kids⟩,deep,most,h=>by
    rw[mg]
    split
    · omega
    · exact Fv kids deep most 1 (by omega) (by omega)
theorem Fv:∀(l:List TUnit)(deep most n:Int),1≤n→n≤most+1→1≤mh l deep most n∧mh l deep most n≤most+1
  |[],_,_,n,h1,h2=>by grind[mh]
  | k::r,deep,most,n,h1,h2=>by
    rw[mh]
    split
    · omega
    · rename_i h
      have:=aE h
      have:=Fw k (deep+1) (most-n) (by omega)
      exact Fv r deep most _ (by omega) (by omega)
end
theorem SN:∀(u:TUnit),jo u→∀(deep most:Int),0≤deep→deep≤21→0≤most→most≤2^20→kP 108 [eU u,iV deep,iV most] (iV (mg u deep most)):=by
  refine TUnit.ind fun u ih hf deep most d1 d2 m1 m2=>?_
  obtain⟨f1,f2,f3,f4⟩:=oZ.1 hf
  have rr0 b' (h:(mg u deep most)=b':=by rw[PW];simp only[mh,aS,ak,bS, *]):=h;exact bH Tryz.func108<|Ka 3 20 deep (fun _ _=>Kl 1 12 (Le.wr (x:=most+1) e9)<|Kf 0<|li<|rr0<|most+1) fun _ _=>K1 1 (.frz 0 [1,2,3,7,8]) ti<|H0 aK u.kids (1:Int) [1,2,3,7,8] (fun a _ b=>([iV deep,iV most,AV.pptr [ab [iV u.act,iV u.item,iV u.n,iV u.kind,ax u.label,aW<|u.head.map aQ,aW<|u.words.map aQ,aW<|u.kids.map aK]] 0 0,iV b,nV a],[])) (fun a b=>(1:Int)≤b∧b≤most+(1:Int)∧mh u.kids deep most (1:Int)=mh a deep most b) oA (fun _ _ a _ _ _ b _=>Kl 3 16 (ln aK u.kids)<|Kh 1 b<|Mh b<|Mh b<|My b<|Kf 2<|li<|rr0 a) fun a _ b c _ d e f g i _ j _=>have j:=j.trans<|congrArg some<|aT d;Kl 3 16 (ln aK u.kids)<|Kt 1 i<|Kt 0 i<|Kt 0 i<|Ku 0 i<|Mn (ap most b) (fun i=>have:=aE i;Kx 3 j<|Kl 2 32 (Le.wr (x:=deep+1) e9)<|Kl 2 35 (Le.wr (x:=most-b) e9)<|Mp (ih d (by exact aR c g) (by exact f4 _ (aR c g)) (deep+1) (most-b) oA oA oA oA)<|have:=Fw d (deep+1) (most-b) oA;Kl 0 37 (Le.wr (x:=b+mg d (deep+1) (most-b)) e9)<|Kl 2 24 (dV a)<|Kf 0<|f (b+mg d (deep+1) (most-b))<|by(refine⟨by omega,by omega,?_⟩;first|rfl|grind[mh])) fun a=>have:=am a;Kf 1<|li<|rr0 b
noncomputable def G3(u:TUnit)(most:Int):Bool:=ak (ap most (mg u 0 most))&&ki u
theorem Uj(u:TUnit)(most:Int)(hf:jo u)(m1:0≤most)(m2:most≤2^20):kP 75 [eU u,iV most] (.bool (G3 u most)):=by
  have rr0 b' (h:(G3 u most)=b':=by simp only[G3,aS,ak,bS, *]):=h;exact bH Tryz.func75<|Kp 3 (SN u hf 0 most oA oA m1 m2)<|Kn 2 (ap most<|mg u 0 most) (fun a=>Kt 0 (cH a)<|Mp (Og u hf)<|MV (cH a)<|Kf 0<|cb<|rr0<|ki u) fun a=>Mh (bR a)<|My (bR a)<|Ky 0<|rr0 false
noncomputable def xd(s:aO):Bool:=ak (ap 100 (.ofNat s.length))
noncomputable def xb(s:PStep):Bool:=ak (ap 100 (.ofNat s.label.length))
noncomputable def x9(x:PItem):Bool:=
  ak (ap 12 (.ofNat x.at_.length))&&ak (ap 12 (.ofNat x.to.length))&&ak (ap 300 (.ofNat x.old.length))&&ak (ap 300 (.ofNat x.new.length))&&ak (ap 100 (.ofNat x.label.length))&&ak (ap 100 (.ofNat x.for_.length))
  &&ak (ap 100 (.ofNat x.start.event.length))&&ak (ap 100 (.ofNat x.event.length))&&ak (ap 2 (.ofNat x.by_.length))&&G3 x.unit 30
noncomputable def Hw(y:PItem):Bool:=ap 0 (.ofNat y.by_.length)&&ap 0 (.ofNat (gD y.by_ 0).by_.length)
mutual
noncomputable def mH:PItem→Bool
  |⟨k,a,t,w,nn,u,o,n,lb,fo,st,ac,it,dy,ev,by_⟩=>x9 ⟨k,a,t,w,nn,u,o,n,lb,fo,st,ac,it,dy,ev,by_⟩&&(o.all xd&&(n.all xd&&(a.all xb&&(t.all xb&&G5 by_))))
noncomputable def G5:List PItem→Bool
  |[]=>true
  |u::r=>(ak (Hw u)&&mH u)&&G5 r
end
noncomputable def Hs(y:PItem):Bool:=ak (Hw y)&&mH y
theorem G4:∀(l:List PItem),G5 l=l.all Hs
  |[]=>by rw[G5];rfl
  |u::r=>by rw[G5,G4 r];rfl
theorem D9(x:PItem):mH x=(x9 x&&(x.old.all xd&&(x.new.all xd&&(x.at_.all xb&&(x.to.all xb&&x.by_.all Hs))))):=by
  obtain⟨k,a,t,w,nn,u,o,n,lb,fo,st,ac,it,dy,ev,by_⟩:=x
  rw[mH,G4];rfl
theorem Uk:∀(x:PItem),m6 x→kP 61 [eI x] (.bool (mH x)):=by
  refine PItem.ind fun x ih hf=>?_
  obtain⟨f1,f2,f3,f4,f5,f6,f7⟩:=qm.1 hf
  have hu:kP 75 [eU x.unit,iV 30] (.bool (G3 x.unit 30)):=Uj x.unit 30 f6 (by omega) (by omega)
  have rr0 b' (h:(mH x)=b':=by rw[D9,x9];simp only[Hs,Hw,xd,xb,aS,ak,bS, *]):=h;exact bH Tryz.func61<|Kl 4 10 (ln az x.at_)<|Ka 1 12 (Int.ofNat x.at_.length) (fun a _=>Mt a<|Mt a<|Mt a<|MV a<|Ky 17<|rr0 false) fun a _=>Kh 0 a<|Kh 0 a<|Kl 0 15 (ln az x.to)<|Mh a<|Kw 0 a<|Ka 0 12 (Int.ofNat x.to.length) (fun a _=>Mt a<|Mt a<|Mt a<|MV a<|Ky 15<|rr0 false) fun a _=>Kh 0 a<|Kh 0 a<|Kl 0 21 (ln mN x.old)<|Mh a<|Kw 0 a<|Ka 0 300 (Int.ofNat x.old.length) (fun a _=>Mt a<|Mt a<|Mt a<|MV a<|Ky 13<|rr0 false) fun a _=>Kh 0 a<|Kh 0 a<|Kl 0 27 (ln mN x.new)<|Mh a<|Kw 0 a<|Ka 0 300 (Int.ofNat x.new.length) (fun a _=>Mt a<|Mt a<|Mt a<|MV a<|Ky 11<|rr0 false) fun a _=>Kh 0 a<|Kh 0 a<|Kh 0 a<|Kw 0 a<|Ka 0 100 (Int.ofNat<|List.length x.label) (fun a _=>Mt a<|Mt a<|Mt a<|MV a<|Ky 9<|rr0 false) fun a _=>Kh 0 a<|Kh 0 a<|Kh 0 a<|Kw 0 a<|Ka 0 100 (Int.ofNat<|List.length x.for_) (fun a _=>Mt a<|Mt a<|Mt a<|Mt a<|MV a<|Ky 7<|rr0 false) fun a _=>Kh 0 a<|Kh 0 a<|Kh 0 a<|Kh 0 a<|Kw 0 a<|Ka 0 100 (Int.ofNat<|List.length x.start.event) (fun a _=>Mt a<|Mt a<|Mt a<|MV a<|Ky 5<|rr0 false) fun a _=>Kh 0 a<|Kh 0 a<|Kh 0 a<|Kw 0 a<|Ka 0 100 (Int.ofNat<|List.length x.event) (fun a _=>Mt a<|Mt a<|Mt a<|MV a<|Ky 3<|rr0 false) fun a _=>Kh 0 a<|Kh 0 a<|Kl 0 58 (ln NG x.by_)<|Mh a<|Kw 0 a<|Ka 0 2 (Int.ofNat x.by_.length) (fun a _=>Mt a<|Mt a<|Mt a<|MV a<|Ky 1<|rr0 false) fun a _=>Kh 0 a<|Kh 0 a<|Mp hu<|Mh a<|Kw 0 a<|Mn (G3 x.unit 30) (fun _=>Ky 0<|rr0 false) fun _=>K1 0 (.frz 0 [1,3]) ti<|vP mN x.old [1,3] (fun a _=>([AV.pptr [ab [iV x.kind,aW<|x.at_.map az,aW<|x.to.map az,iV x.where_,iV x.nth_,iV x.unit.act,iV x.unit.item,iV x.unit.n,iV x.unit.kind,ax x.unit.label,aW<|x.unit.head.map aQ,aW<|x.unit.words.map aQ,aW<|x.unit.kids.map aK,aW<|x.old.map mN,aW<|x.new.map mN,ax x.label,ax x.for_,iV x.start.kind,iV x.start.day,ax x.start.event,iV x.act,iV x.item,iV x.day,ax x.event,aW<|x.by_.map NG]] 0 0,nV a],[])) (fun a=>x.old.all xd=a.all xd) (by rfl) (fun _ _ _ _ _ a _=>Kl 3 70 (ln mN x.old)<|Kh 0 a<|Mg 0<|vP mN x.new [1,4] (fun a _=>([AV.pptr [ab [iV x.kind,aW<|x.at_.map az,aW<|x.to.map az,iV x.where_,iV x.nth_,iV x.unit.act,iV x.unit.item,iV x.unit.n,iV x.unit.kind,ax x.unit.label,aW<|x.unit.head.map aQ,aW<|x.unit.words.map aQ,aW<|x.unit.kids.map aK,aW<|x.old.map mN,aW<|x.new.map mN,ax x.label,ax x.for_,iV x.start.kind,iV x.start.day,ax x.start.event,iV x.act,iV x.item,iV x.day,ax x.event,aW<|x.by_.map NG]] 0 0,nV a],[])) (fun a=>x.new.all xd=a.all xd) (by rfl) (fun _ _ _ _ _ a _=>Kl 3 84 (ln mN x.new)<|Kh 0 a<|Mg 0<|vP az x.at_ [1,5] (fun a _=>([AV.pptr [ab [iV x.kind,aW<|x.at_.map az,aW<|x.to.map az,iV x.where_,iV x.nth_,iV x.unit.act,iV x.unit.item,iV x.unit.n,iV x.unit.kind,ax x.unit.label,aW<|x.unit.head.map aQ,aW<|x.unit.words.map aQ,aW<|x.unit.kids.map aK,aW<|x.old.map mN,aW<|x.new.map mN,ax x.label,ax x.for_,iV x.start.kind,iV x.start.day,ax x.start.event,iV x.act,iV x.item,iV x.day,ax x.event,aW<|x.by_.map NG]] 0 0,nV a],[])) (fun a=>x.at_.all xb=a.all xb) (by rfl) (fun _ _ _ _ _ a _=>Kl 3 98 (ln az x.at_)<|Kh 0 a<|Mg 0<|vP az x.to [1,6] (fun a _=>([AV.pptr [ab [iV x.kind,aW<|x.at_.map az,aW<|x.to.map az,iV x.where_,iV x.nth_,iV x.unit.act,iV x.unit.item,iV x.unit.n,iV x.unit.kind,ax x.unit.label,aW<|x.unit.head.map aQ,aW<|x.unit.words.map aQ,aW<|x.unit.kids.map aK,aW<|x.old.map mN,aW<|x.new.map mN,ax x.label,ax x.for_,iV x.start.kind,iV x.start.day,ax x.start.event,iV x.act,iV x.item,iV x.day,ax x.event,aW<|x.by_.map NG]] 0 0,nV a],[])) (fun a=>x.to.all xb=a.all xb) (by rfl) (fun _ _ _ _ _ a _=>Kl 3 113 (ln az x.to)<|Kh 0 a<|Mg 0<|vP NG x.by_ [1,7] (fun a _=>([AV.pptr [ab [iV x.kind,aW<|x.at_.map az,aW<|x.to.map az,iV x.where_,iV x.nth_,iV x.unit.act,iV x.unit.item,iV x.unit.n,iV x.unit.kind,ax x.unit.label,aW<|x.unit.head.map aQ,aW<|x.unit.words.map aQ,aW<|x.unit.kids.map aK,aW<|x.old.map mN,aW<|x.new.map mN,ax x.label,ax x.for_,iV x.start.kind,iV x.start.day,ax x.start.event,iV x.act,iV x.item,iV x.day,ax x.event,aW<|x.by_.map NG]] 0 0,nV a],[])) (fun a=>x.by_.all Hs=a.all Hs) (by rfl) (fun _ _ _ _ _ a _=>Kl 3 128 (ln NG x.by_)<|Kh 0 a<|Ky 0<|rr0 true) fun a _ b _ c d e f g _ i _=>have i:=i.trans<|congrArg some<|eb c;Kl 3 128 (ln NG x.by_)<|Kt 0 g<|Kx 2 i<|Kl 2 138 (ln NG c.by_)<|Ka 1 0 (Int.ofNat c.by_.length) (fun g _=>Kt 0 g<|Kt 0 g<|Kt 0 g<|Mx i<|Mt g<|Kt 0 g<|Kt 0 g<|Mx ((bW NG (sA:0<(c.by_).length)).trans<|congrArg some<|eb _)<|Mt g<|Kt 0 g<|Kt 0 g<|Kl 0 150 (ln NG (gD c.by_ 0).by_)<|Mt g<|Ku 0 g<|Ka 0 0 (Int.ofNat (gD c.by_ 0).by_.length) (fun a _=>Mt a<|Mt a<|Mt a<|Mt a<|Mt a<|Mt a<|MV a<|Ky 1<|rr0 false) fun g _=>Kh 0 g<|Kh 0 g<|Kh 0 g<|Mx i<|Mh g<|Kh 0 g<|Mp (ih c (by exact aR b f)<|by exact f7 _ (aR b f))<|Mh g<|Kw 0 g<|Mn (mH c) (fun _=>Kf 0<|cb<|rr0 false) fun _=>Kl 1 131 (dV a)<|Kf 0<|e<|by simp_all[Hs,Hw]) fun g _=>Mh g<|Mh g<|Mh g<|Mh g<|Mh g<|Mh g<|Mh g<|Mh g<|Mh g<|Mh g<|My g<|Kx 3 i<|Kp 0 (ih c (by exact aR b f)<|by exact f7 _ (aR b f))<|Kn 1 (mH c) (fun _=>Kf 0<|cb<|rr0 false) fun _=>Kl 1 131 (dV a)<|Kf 0<|e<|by simp_all[Hs,Hw]) fun a _ _ _ b c d _ e _ f _=>Kl 3 113 (ln az x.to)<|Kt 0 e<|Kx 2 f<|Ka 3 100 (Int.ofNat<|List.length b.label) (fun _ _=>Ky 0<|rr0 false) fun _ _=>Kl 1 116 (dV a)<|Kf 0<|d<|by simp_all[xb]) fun a _ _ _ b c d _ e _ f _=>Kl 3 98 (ln az x.at_)<|Kt 0 e<|Kx 2 f<|Ka 3 100 (Int.ofNat<|List.length b.label) (fun _ _=>Ky 0<|rr0 false) fun _ _=>Kl 1 101 (dV a)<|Kf 0<|d<|by simp_all[xb]) fun a _ _ _ b c d _ e _ f _=>Kl 3 84 (ln mN x.new)<|Kt 0 e<|Kx 2 f<|Ka 2 100 (Int.ofNat<|List.length b) (fun _ _=>Ky 0<|rr0 false) fun _ _=>Kl 1 87 (dV a)<|Kf 0<|d<|by simp_all[xd]) fun a _ _ _ b c d _ e _ f _=>Kl 3 70 (ln mN x.old)<|Kt 0 e<|Kx 2 f<|Ka 2 100 (Int.ofNat<|List.length b) (fun _ _=>Ky 0<|rr0 false) fun _ _=>Kl 1 73 (dV a)<|Kf 0<|d<|by simp_all[xd]

theorem ifB(l:aO)(g:Nat)(p:UInt8→Bool)(hp:∀s,s∈l→kP g [.int .u8 (.ofNat s.toNat)] (.bool (p s)))(hl:l.length<2^40):kP 306 [.ls (l.map nj),.func (.func g) [] []] (iV (dB p l 0)):=by
  have rr0 b' (h:(dB p l 0)=b':=by first|exact mZ zd0 hr0 hj0 ‹_› |exact hj0):=h;exact bH Tryz.func306<|Kl 2 7 (ln nj l)<|Mg 0<|vP nj l [0,1,7,8] (fun a _=>([aW<|l.map nj,bU (bY g) [] [],nV<|List.length l,nV a],[])) (fun a=>dB p l (0:Nat)=dB p a (List.length l-a.length)) sA (fun _ _ zd0 _ hr0 a hj0=>Kh 0 a<|Kf 0<|li<|rr0 (-1)) fun a _ zd0 _ b c d hr0 e _ f hj0=>Kt 0 e<|Kx 4 f<|Kp 0 (hp b<|by exact aR zd0 hr0)<|Mb (p b) (fun _=>Kf 1<|li<|rr0<|Int.ofNat a) fun _=>Kl 0 18 (dV a)<|Kf 0<|d<|by exact kJ zd0 hr0 hj0 (by omega)
theorem cfB(l:aO)(g:Nat)(p:UInt8→Bool)(hp:∀s,s∈l→kP g [.int .u8 (.ofNat s.toNat)] (.bool (p s)))(hl:l.length<2^40):kP 294 [.ls (l.map nj),.func (.func g) [] []] (.bool (l.any p)):=by
  have h:=ifB l g p hp hl
  have rr0 b' (h:(List.any l p)=b':=by(rw[lK];simp only[aS,ak,bS,ru])):=h;exact bH Tryz.func294<|Kp 2 h<|Kf 1<|cb<|rr0<|ak<|ap (dB p l 0) 0
theorem Oh(c:UInt8):kP 293 [.int .u8 (.ofNat c.toNat)] (.bool (ak (Ql 33 126 c))):=by
  have rr0 b' (h:(ak (Ql 33 126 c))=b':=by(simp only[Ql,aS,ak,bS,ru, *])):=h;exact bH Tryz.func293<|Kb 3 (ap (Int.ofNat c.toNat) 33) (fun a=>Mt a<|MV a<|Ky 0<|rr0 true) fun a=>Kh 0 a<|Kw 0 a<|Kf 0<|cb<|rr0<|ap 126<|Int.ofNat c.toNat
theorem Sm(s:aO)(hs:s.length≤2^39):kP 266 [.str s] (.bool (rD s)):=by
  have h:=cfB s 293 _ (fun c _=>Oh c) (by omega)
  have rr0 b' (h:(rD s)=b':=by first|(simp only[rD,aS,ak,bS, *];done)|(rw[rD,Rq,List.all_eq_not_any_not];simp only[DF,aS,ak,bS, *]at *)):=h;let q:=List.map nj s;exact bH Tryz.func266<|Kn 4 (eJ s (ByteArray.mk #[]).data.toList) (fun a=>Kt 0 (cH a)<|Kt 0 (cH a)<|Ku 0 (cH a)<|Kn 0 (ap 24<|Int.ofNat<|List.length s) (fun a=>Kt 0 (cH a)<|Mv (Ut (s:=s) (H:=av []) (oA:(s).length≤2^40))<|Mt (cH a)<|Kt 0 (cH a)<|Mp (bX.onArgs (.cons (fg q _<|aX Vi s)<|lc .nil) h:kP 294 [jq q false,bU (bY 293) [] []] _)<|Mt (cH a)<|Ku 0 (cH a)<|Kf 0<|cb<|rr0<|ak<|List.any s fun a=>ak<|Ql 33 126 a) fun a=>Mh (bR a)<|Mh (bR a)<|Mh (bR a)<|Mh (bR a)<|My (bR a)<|Ky 0<|rr0 false) fun a=>Mh (bR a)<|Mh (bR a)<|My (bR a)<|Ky 2<|rr0 false
theorem ifS(l:List aO)(g:Nat)(p:aO→Bool)(hp:∀s,s∈l→kP g [.str s] (.bool (p s)))(hl:l.length<2^40):kP 292 [.ls (l.map mN),.func (.func g) [] []] (iV (dB p l 0)):=by
  have rr0 b' (h:(dB p l 0)=b':=by first|exact mZ zd0 hr0 hj0 ‹_› |exact hj0):=h;exact bH Tryz.func292<|Kl 2 7 (ln mN l)<|Mg 0<|vP mN l [0,1,7,8] (fun a _=>([aW<|l.map mN,bU (bY g) [] [],nV l.length,nV a],[])) (fun a=>dB p l (0:Nat)=dB p a (l.length-a.length)) sA (fun _ _ zd0 _ hr0 a hj0=>Kh 0 a<|Kf 0<|li<|rr0 (-1)) fun a _ zd0 _ b c d hr0 e _ f hj0=>Kt 0 e<|Kx 4 f<|Kp 0 (hp b<|by exact aR zd0 hr0)<|Mb (p b) (fun _=>Kf 1<|li<|rr0<|Int.ofNat a) fun _=>Kl 0 18 (dV a)<|Kf 0<|d<|by exact kJ zd0 hr0 hj0 (by omega)
theorem cfS(l:List aO)(g:Nat)(p:aO→Bool)(hp:∀s,s∈l→kP g [.str s] (.bool (p s)))(hl:l.length<2^40):kP 264 [.ls (l.map mN),.func (.func g) [] []] (.bool (l.any p)):=by
  have h:=ifS l g p hp hl
  have rr0 b' (h:(l.any p)=b':=by(rw[lK];simp only[aS,ak,bS,ru])):=h;exact bH Tryz.func264<|Kp 2 h<|Kf 1<|cb<|rr0<|ak<|ap (dB p l 0) 0
theorem L2(s:aO)(hs:s.length≤2^39):kP 265 [.str s] (.bool (ak (rD s))):=by
  exact bH Tryz.func265<|Kp 1 (Sm s hs)<|Kf 1<|bi<|dT<|ak<|rD s
theorem Kg(l:List aO)(hl:l.length<2^40)(hs:∀s,s∈l→s.length≤2^39):kP 236 [.ls (l.map mN)] (.bool (qJ l)):=by
  have h:=cfS l 265 _ (fun s m=>L2 s (hs s m)) hl
  have rr0 b' (h:(qJ l)=b':=by first|(simp only[qJ,aS,ak,bS, *];done)|(rw[qJ,List.all_eq_not_any_not];simp only[aS,ak,bS, *])):=h;exact bH Tryz.func236<|Kl 2 4 (ln mN l)<|Kn 1 (ap 256<|Int.ofNat l.length) (fun a=>Kt 0 (cH a)<|Mp h<|Mt (cH a)<|Ku 0 (cH a)<|Kf 0<|cb<|rr0<|ak<|l.any fun a=>ak<|rD a) fun a=>Mh (bR a)<|Mh (bR a)<|My (bR a)<|Ky 0<|rr0 false
theorem Pg(r:Int):kP 268 [.int .i32 r] (.bool (ap r 48||ap 57 r)):=by
  have rr0 b' (h:(ap r 48||ap 57 r)=b':=by(simp only[aS,ak,bS, *])):=h;exact bH Tryz.func268<|Kb 3 (ap r 48) (fun a=>Mt a<|MV a<|Ky 0<|rr0 true) fun a=>Kh 0 a<|Kw 0 a<|Kf 0<|cb<|rr0<|ap 57 r
theorem Tw(r:Int):kP 238 [.int .i32 r] (.bool (ap r 65||ap 90 r)):=by
  have rr0 b' (h:(ap r 65||ap 90 r)=b':=by(simp only[aS,ak,bS, *])):=h;exact bH Tryz.func238<|Kb 3 (ap r 65) (fun a=>Mt a<|MV a<|Ky 0<|rr0 true) fun a=>Kh 0 a<|Kw 0 a<|Kf 0<|cb<|rr0<|ap 90 r
theorem HO(s:PStep):kP 199 [az s] (.bool (ah s.kind 0&&eJ s.label [])):=by
  have rr0 b' (h:(ah s.kind 0&&eJ s.label [])=b':=by(simp only[aS,ak,bS, *];first|done|rfl)):=h;exact bH Tryz.func199<|Kb 5 (ah s.kind 0) (fun a=>Kt 0 a<|Kt 0 a<|Ku 0 a<|Kf 0<|cb<|rr0<|eJ s.label (ByteArray.mk #[]).data.toList) fun a=>Mh a<|Mh a<|My a<|Ky 0<|rr0 false
theorem uR(n a b:Int):kP 195 [iV n,iV a,iV b] (.bool (ak (ap n a)&&ak (ap b n))):=by
  have rr0 b' (h:(ak (ap n a)&&ak (ap b n))=b':=by(simp only[aS,ak,bS, *])):=h;exact bH Tryz.func195<|Kn 4 (ap n a) (fun c=>Kt 0 (cH c)<|Kt 0 (cH c)<|Ku 0 (cH c)<|Kf 0<|cb<|rr0<|ak<|ap b n) fun c=>Mh (bR c)<|Mh (bR c)<|My (bR c)<|Ky 0<|rr0 false
theorem Qp(s:aO):kP 267 [.str s,.func (.func 268) [] []] (iV (bif Nat.beq (ed kq s) s.length then -1 else Int.ofNat (ed kq s))):=
  zL jK (Go.Proofs.enters_of Go.Proofs.Tryz.lidxf.f15 (by kernel_rfl) rfl) (Go.Proofs.enters_of Tryz.func268 (by kernel_rfl) rfl)
    (fun s w hp=>Go.Proofs.Any.strings_IndexFunc_grows Go.Proofs.Tryz.lidxf 268 #[] (Go.Proofs.enters_of Tryz.func268 (by kernel_rfl) rfl) _ s w hp) Pg (fun _=>rfl) (Hh (lo:=48) (hi:=57) (by omega)) s
theorem Qr(s:aO)(h:By (Nat.beq (ed kq s) s.length) true):kP 267 [.str s,.func (.func 268) [] []] (iV (-1)):=by
  have:=Qp s
  simp_all
theorem T4(s:aO)(h:By (Nat.beq (ed kq s) s.length) false):kP 267 [.str s,.func (.func 268) [] []] (nV (ed kq s)):=by
  have:=Qp s
  grind
theorem ZF(s:aO):kP 239 [.str s,.func (.func 238) [] []] (.bool (ak (s.all XU))):=
  um jK (Go.Proofs.enters_of Go.Proofs.Tryz.lconf.f17 (by kernel_rfl) rfl) (Go.Proofs.enters_of Tryz.func238 (by kernel_rfl) rfl)
    (fun s w hp=>Go.Proofs.Any.strings_ContainsFunc_grows Go.Proofs.Tryz.lconf 238 #[] (Go.Proofs.enters_of Tryz.func238 (by kernel_rfl) rfl) _ s w hp) Tw (fun _=>rfl) (Hh (lo:=65) (hi:=90) (by omega)) s
theorem MH(s:aO)(hs:s.length≤2^39):kP 237 [.str s] (.tuple [.str (s.take (ed kq s)),.str (s.drop (ed kq s))]):=by
  have hl:=KY (p:=kq) (s:=s)
  have rr0 b' (h:(s.take (ed kq s))=b':=by(rw[pE h0];simp)):=h;have rr1 b' (h:(s.drop (ed kq s))=b':=by(rw[pE h0];simp)):=h;let q:=AHeap.mk 1000000 Tr.nil;exact bH Tryz.func237<|Ks 2 ((ed kq s).beq<|List.length s) (fun h0=>Mp (Qr s h0)<|Kf 6<|cC<|.cons (Le.str<|rr0 s)<|.cons (Le.str<|rr1 []) .nil) fun h0=>Mp (T4 s h0)<|Kv 5 (VS (s:=s) (n:=ed kq s) (k:=IntKind.i64) (H:=q) oA)<|Kv 1 (VR (s:=s) (l:=ed kq s) (k:=IntKind.i64) (H:=q) oA)<|Kf 1<|bi<|bO [ax<|s.take<|ed kq s,ax<|s.drop<|ed kq s]
theorem tT(s:aO)(hs:s.length≤2^39):kP 190 [.str s] (.bool (kX s)):=by
  have hd:(s.drop (ed kq s)).length≤2^39:=by grind
  have rr0 b' (h:(kX s)=b':=by first|(simp only[kX,aS,ak,bS,ru, *];done)|(simp only[kX,aS,ak,bS,ru, *];rfl)|(unfold kX;simp only[h0,h1,h2];rfl)):=h;exact bH Tryz.func190<|Kp 1 (MH s hs)<|Kd 9 (Int.ofNat (s.take<|ed kq s).length) 1 (fun h0 _=>Kt 0 (cH h0)<|Kt 0 (cH h0)<|Ku 0 (cH h0)<|Kd 0 4 (Int.ofNat (s.take<|ed kq s).length) (fun h1 _=>Kt 0 (cH h1)<|M1 (.chr<|gD (s.take<|ed kq s) 0) (zY (gR:0<(s.take (ed kq s)).length))<|Mt (cH h1)<|Ku 0 (cH h1)<|Kc 0 (Int.ofNat (gD (s.take<|ed kq s) 0).toNat) 48 (fun h2 _=>Kt 0 (cH h2)<|Kt 0 (cH h2)<|Ku 0 (cH h2)<|Kd 0 3 (Int.ofNat (s.drop<|ed kq s).length) (fun a _=>Kt 0 (cH a)<|Kt 0 (cH a)<|Mp (ZF<|s.drop<|ed kq s)<|Mt (cH a)<|Ku 0 (cH a)<|Kf 0<|cb<|rr0<|ak<|ak<|(s.drop<|ed kq s).all XU) fun a _=>Mh (bR a)<|Mh (bR a)<|Mh (bR a)<|My (bR a)<|Ky 0<|rr0 false) fun h2 _=>Mh (bR h2)<|Mh (bR h2)<|My (bR h2)<|Ky 2<|rr0 false) fun h1 _=>Mh (bR h1)<|Mh (bR h1)<|My (bR h1)<|Ky 4<|rr0 false) fun h0 _=>Mh (bR h0)<|Mh (bR h0)<|My (bR h0)<|Ky 6<|rr0 false
theorem uL(p:List PStep)(hl:p.length<2^40)(hs:∀s,s∈p→s.label.length≤2^39):kP 136 [.ls (p.map az)] (.bool (kg p)):=by
  have rr0 b' (h:(kg p)=b':=by first|(rw[kg,hj0,U2];rfl)|(rw[kg,Ep zd0 hr0 hj0];simp only[m0,tV,‹ah (Int.ofNat zi0) 0=_›,cond_true,cond_false];simp only[DF,aS,ak,bS, *];first|done|rfl)):=h;exact bH Tryz.func136<|Kl 2 6 (ln az p)<|Mg 0<|vP az p [0,5,6,7] (fun a _=>([aW<|p.map az,aW<|p.map az,nV p.length,nV a],[])) (fun a=>OX p=HN p a) (by(exact OZ)) (fun zi0 _ zd0 _ hr0 a hj0=>Kh 0 a<|Kl 1 34 (ln az p)<|Kf 1<|cb<|rr0<|ak<|ap 9<|Int.ofNat p.length) fun zi0 _ zd0 _ a b c hr0 d _ e hj0=>Kt 0 d<|Kx 0 e<|Kj 6 (Int.ofNat zi0) 0 (fun d _=>Kt 0 d<|Mp (HO a)<|MV d<|Mb (ah a.kind 0&&eJ a.label []) (fun _=>Kl 0 32 (dV zi0)<|K1 0 (.frz 0 [0,5,6,7]) ti<|Mf<|c<|by(rw[Ep zd0 hr0 hj0];simp only[m0,tV,‹ah (Int.ofNat zi0) 0=_›,cond_true,cond_false];simp only[DF,aS,ak,bS, *];first|done|rfl)) fun _=>Kd 3 0 a.kind (fun a _=>Mt (cH a)<|Mt (cH a)<|MV (cH a)<|Ky 3<|rr0 false) fun d _=>Kh 0 (bR d)<|Kh 0 (bR d)<|Kw 0 (bR d)<|Ka 0 7 a.kind (fun a _=>Mt a<|Mt a<|Mt a<|MV a<|Ky 1<|rr0 false) fun d _=>Kh 0 d<|Kh 0 d<|Mp (tT a.label<|by exact hs _ (aR zd0 hr0))<|Mh d<|Kw 0 d<|Mn (kX a.label) (fun _=>Kf 0<|cb<|rr0 false) fun _=>Kl 0 32 (dV zi0)<|K1 0 (.frz 0 [0,5,6,7]) ti<|Mf<|c<|by(rw[Ep zd0 hr0 hj0];simp only[m0,tV,‹ah (Int.ofNat zi0) 0=_›,cond_true,cond_false];simp only[DF,aS,ak,bS, *];first|done|rfl)) fun d _=>Mh d<|My d<|Kd 4 0 a.kind (fun a _=>Mt (cH a)<|Mt (cH a)<|MV (cH a)<|Ky 3<|rr0 false) fun d _=>Kh 0 (bR d)<|Kh 0 (bR d)<|Kw 0 (bR d)<|Ka 0 7 a.kind (fun a _=>Mt a<|Mt a<|Mt a<|MV a<|Ky 1<|rr0 false) fun d _=>Kh 0 d<|Kh 0 d<|Mp (tT a.label<|by exact hs _ (aR zd0 hr0))<|Mh d<|Kw 0 d<|Mn (kX a.label) (fun _=>Kf 0<|cb<|rr0 false) fun _=>Kl 0 32 (dV zi0)<|K1 0 (.frz 0 [0,5,6,7]) ti<|Mf<|c<|by(rw[Ep zd0 hr0 hj0];simp only[m0,tV,‹ah (Int.ofNat zi0) 0=_›,cond_true,cond_false];simp only[DF,aS,ak,bS, *];first|done|rfl)
theorem T3(l:List Int)(v:Int)(hl:l.length<2^40):kP 281 [.ls (l.map aj),iV v] (iV (dB (ah v) l 0)):=by
  have rr0 b' (h:(dB (ah v) l 0)=b':=by first|exact mZ zd0 hr0 hj0 ‹_› |exact hj0):=h;exact bH Tryz.func281<|Kl 2 7 (ln aj l)<|Mg 0<|vP aj l [0,1,7,8] (fun a _=>([aW<|l.map aj,iV v,nV l.length,nV a],[])) (fun a=>dB (ah v) l (0:Nat)=dB (ah v) a (l.length-a.length)) sA (fun _ _ zd0 _ hr0 a hj0=>Kh 0 a<|Kf 0<|li<|rr0 (-1)) fun a _ zd0 _ b c d hr0 e _ f hj0=>Kt 0 e<|Kx 4 f<|Kj 1 v b (fun _ _=>Kf 1<|li<|rr0<|Int.ofNat a) fun _ _=>Kl 0 18 (dV a)<|Kf 0<|d<|by exact kJ zd0 hr0 hj0 (by omega)
theorem rv(l:List Int)(v:Int)(hl:l.length<2^40):kP 254 [.ls (l.map aj),iV v] (.bool (l.any (ah v))):=by
  have h:=T3 l v hl
  have rr0 b' (h:(l.any (ah v))=b':=by(rw[lK];simp only[aS,ak,bS,ru])):=h;exact bH Tryz.func254<|Kp 2 h<|Kf 1<|cb<|rr0<|ak<|ap (dB (ah v) l 0) 0
theorem Qo(v:Int):kP 281 [.nils,iV v] (iV (-1)):=by
  let q:=[af,iV v,iV 0,iV 0];exact bH Tryz.func281<|Mg 3<|ZQ [0,1,7,8] (q,[]) True 0 ti fun _ _=>Kf 2<|bi<|iV (-1)
theorem Hc(v:Int):kP 254 [.nils,iV v] (.bool false):=by
  have h:=Qo v
  exact bH Tryz.func254<|Kp 2 h<|Kf 1<|bi<|dT false
theorem kn0:kP 301 [iV 0] (.str (c8 0)):=by
  exact wk Tryz.func301 (.go 11 .fin)<|bi<|ax [98,111,111,107]
theorem kn1:kP 301 [iV 1] (.str (c8 1)):=by
  exact wk Tryz.func301 (.go 11 .fin)<|bi<|ax [112,97,114,116]
theorem kn2:kP 301 [iV 2] (.str (c8 2)):=by
  exact wk Tryz.func301 (.go 11 .fin)<|bi<|ax [115,101,99,116,105,111,110]
theorem kn3:kP 301 [iV 3] (.str (c8 3)):=by
  exact wk Tryz.func301 (.go 11 .fin)<|bi<|ax [112,97,114,97,103,114,97,112,104]
theorem kn4:kP 301 [iV 4] (.str (c8 4)):=by
  exact wk Tryz.func301 (.go 11 .fin)<|bi<|ax [116,97,98,108,101]
theorem kn5:kP 301 [iV 5] (.str (c8 5)):=by
  exact wk Tryz.func301 (.go 11 .fin)<|bi<|ax [114,111,119]
theorem kn6:kP 301 [iV 6] (.str (c8 6)):=by
  exact wk Tryz.func301 (.go 11 .fin)<|bi<|ax [99,101,108,108]
theorem kn7:kP 301 [iV 7] (.str (c8 7)):=by
  exact wk Tryz.func301 (.go 11 .fin)<|bi<|ax [110,111,116,101]
theorem Z9(k:Int)(h:k<0∨7<k):kP 301 [iV k] (.str (c8 k)):=by
  rw[I2 h]
  have c:ap k 0=true∨(ap k 0=false∧ap k 8=false):=by
    grind[jF,gr]
  rcases c with c|⟨c,d⟩
  · exact bH Tryz.func301<|Kt 3 c<|Mt c<|MV c<|Kf 1<|bi<|ax []
  · exact bH Tryz.func301<|Kh 3 c<|Kh 0 c<|Kw 0 c<|Mt (cH d)<|Kf 0<|bi<|ax []
theorem wD(k:Int):kP 301 [iV k] (.str (c8 k)):=by
  by_cases h:k<0∨7<k
  · grind[Z9]
  · grind[kn0,kn1,kn2,kn3,kn4,kn5,kn6,kn7]
theorem ccX(p k:Int)(h:p<0∨7<p):kP 214 [iV p,iV k] (.bool (jW p k)):=by
  unfold jW
  rw[IV h]
  have c:ap p 0=true∨(ap p 0=false∧ap p 8=false):=by
    grind[jF,gr]
  rcases c with c|⟨c,d⟩
  · exact bH Tryz.func214<|Kh 3 (bR c)<|Mh (bR c)<|My (bR c)<|Kf 2<|bi<|dT false
  · exact bH Tryz.func214<|Kt 3 (cH c)<|Kt 0 (cH c)<|Ku 0 (cH c)<|Kh 0 d<|Mh d<|Mh d<|Mh d<|Mh d<|My d<|Kf 0<|bi<|dT false
theorem cc0(k:Int):kP 214 [iV 0,iV k] (.bool (jW 0 k)):=by
  have h:=rv [1,2] k (by grind)
  let q:=[iV 1,iV 2];exact bH Tryz.func214<|Kp 11 (bX.onArgs (.cons (fg q _<|by rfl)<|lc .nil) h:kP 254 [jq q false,iV k] _)<|Kf 1<|bi<|dT<|[1,2].any<|ah k
theorem cc1(k:Int):kP 214 [iV 1,iV k] (.bool (jW 1 k)):=by
  have h:=rv [2] k (by grind)
  let q:=[iV 2];exact bH Tryz.func214<|Kp 11 (bX.onArgs (.cons (fg q _<|by rfl)<|lc .nil) h:kP 254 [jq q false,iV k] _)<|Kf 1<|bi<|dT<|[2].any<|ah k
theorem cc2(k:Int):kP 214 [iV 2,iV k] (.bool (jW 2 k)):=by
  have h:=rv [3,4,7] k (by grind)
  let q:=[iV 3,iV 4,iV 7];exact bH Tryz.func214<|Kp 11 (bX.onArgs (.cons (fg q _<|by rfl)<|lc .nil) h:kP 254 [jq q false,iV k] _)<|Kf 1<|bi<|dT<|[3,4,7].any<|ah k
theorem cc3(k:Int):kP 214 [iV 3,iV k] (.bool (jW 3 k)):=by
  have h:=rv [3,4,7] k (by grind)
  let q:=[iV 3,iV 4,iV 7];exact bH Tryz.func214<|Kp 11 (bX.onArgs (.cons (fg q _<|by rfl)<|lc .nil) h:kP 254 [jq q false,iV k] _)<|Kf 1<|bi<|dT<|[3,4,7].any<|ah k
theorem cc4(k:Int):kP 214 [iV 4,iV k] (.bool (jW 4 k)):=by
  have h:=rv [5] k (by grind)
  let q:=[iV 5];exact bH Tryz.func214<|Kp 11 (bX.onArgs (.cons (fg q _<|by rfl)<|lc .nil) h:kP 254 [jq q false,iV k] _)<|Kf 1<|bi<|dT<|[5].any<|ah k
theorem cc5(k:Int):kP 214 [iV 5,iV k] (.bool (jW 5 k)):=by
  have h:=rv [6] k (by grind)
  let q:=[iV 6];exact bH Tryz.func214<|Kp 11 (bX.onArgs (.cons (fg q _<|by rfl)<|lc .nil) h:kP 254 [jq q false,iV k] _)<|Kf 1<|bi<|dT<|[6].any<|ah k
theorem cc6(k:Int):kP 214 [iV 6,iV k] (.bool (jW 6 k)):=by
  have h:=Hc k
  exact bH Tryz.func214<|Kp 11 h<|Kf 1<|bi<|dT false
theorem cc7(k:Int):kP 214 [iV 7,iV k] (.bool (jW 7 k)):=by
  have h:=Hc k
  exact bH Tryz.func214<|Kp 11 h<|Kf 1<|bi<|dT false
theorem zk(p k:Int):kP 214 [iV p,iV k] (.bool (jW p k)):=by
  by_cases h:p<0∨7<p
  · grind[ccX]
  · grind[cc0,cc1,cc2,cc3,cc4,cc5,cc6,cc7]
theorem aN{n b m:Nat}(h1:n≤m)(h2:m≤2^40)(h3:m*b≤2^40):small n b=true:=by
  unfold small
  have h4:n*b≤m*b:=eA b h1
  grind[Nat.ble_eq_true_of_le]
noncomputable abbrev wz(u:TUnit):AObj:=.row 8 false 0 [eU u]
def IZ(p:PId)(u:TUnit)(x0:Nat×List TUnit×Unit):Prop:=(u.kids).drop x0.1=x0.2.1∧ch p u.kids=ch p x0.2.1
noncomputable def yc(p:PId)(u:TUnit)(x0:Nat×List TUnit×Unit):List AV×List AObj:=([AV.ptr 0 0 0 0,AV.ptr 1 0 0 0,AV.ls (u.kids.map aK),nV u.kids.length,nV x0.1],[AObj.row 8 false 0 [AV.agg [iV u.act,iV u.item,iV u.n,iV u.kind,AV.str u.label,AV.ls (u.head.map aQ),AV.ls (u.words.map aQ),AV.ls (u.kids.map aK)]],AObj.row 3 false 0 [AV.agg [iV p.a,iV p.i,iV p.n]]])
theorem E9(p:PId):∀(u:TUnit),nU u≤2^20→(cV p u=false→kP 76 [eU u,aV p] .nils)∧(cV p u=true→kP 76 [eU u,aV p] (.ps ((aG p u).map aK) false)):=by
  refine TUnit.ind fun u ih hn=>?_
  have ihn:∀k,k∈u.kids→By (cV p k) false→kP 76 [eU k,aV p] .nils:=fun k hk h=>(ih k hk (b0 (s6 (iq hk)) hn)).1 h
  have ihy:∀k,k∈u.kids→By (cV p k) true→kP 76 [eU k,aV p] (.ps ((aG p k).map aK) false):=fun k hk h=>(ih k hk (b0 (s6 (iq hk)) hn)).2 h
  have hkl:=bd u
  refine⟨fun hs=>?_,fun hs=>?_⟩
  · let q:=[ab [iV u.act,iV u.item,iV u.n,iV u.kind,ax u.label,aW (u.head.map aQ),aW (u.words.map aQ),aW (u.kids.map aK)]];let q3:=[iV p.a,iV p.i,iV p.n];exact bH Tryz.func76<|Kv 5 (lY ((Tryz.prog).underlying 34) u.act u.item u.n p.a p.i p.n<|av [aZ 8 false 0 q,aZ 3 false 0 [ab q3]])<|Mb (ah u.act p.a&&(ah u.item p.i&&ah u.n p.n)) (fun _=>Kf 2<|fk (by exact absurd (hs.symm.trans (DT ‹_›)) (by grind):(AV.nils)=(AV.ps q true))) fun _=>Kl 2 16 (ln aK u.kids)<|Mg 0<|U9 (0:Nat) u.kids () [2,3,15,16,17] (fun a _ _=>([bz 0 0 0 0,bz 1 0 0 0,aW<|u.kids.map aK,nV u.kids.length,nV a],[aZ 8 false 0 [ab [iV u.act,iV u.item,iV u.n,iV u.kind,ax u.label,aW<|u.head.map aQ,aW<|u.words.map aQ,aW<|u.kids.map aK]],aZ 3 false 0 [ab [iV p.a,iV p.i,iV p.n]]])) (fun a b _=>(u.kids).drop a=b∧ch p u.kids=ch p b) (fun _ a _=>a.length) (et rfl<|by rfl) fun a b c d e=>Mc b (fun a=>have b:=eP d.1 a;have:=gw (J:=fun a _=>ch p u.kids=ch p a) (a:=c) a d.2;Kh 0 b<|Kf 0<|bi af) fun b f g=>let i:=List.map aK<|[u]++aG p b;have j:=fY d.1 g;have:=am j;have l:=(eO (enc:=aK) d.1 g).trans<|congrArg some<|aT b;have c:=cq (J:=fun a _=>ch p u.kids=ch p a) (a:=c) g d.2;have:nU b<nU u:=iq<|aR d.1 g;have:(aG p b).length≤nU b:=lP b;Kt 0 j<|Mx l<|Ks 4 (cV p b) (fun a=>Mp (ihy b (by exact aR d.1 g) a)<|Mg 6<|M2 .apl (et (by simp_all[kR]:List.map aK (aG p b)≠[])<|gg (sz:=8) (f:=aK) (fun _=>by(rw[aT];rfl))<|aG p b) (et (by(refine aN (m:=2^21) ?_ ?_ ?_<;>(try simp only[lM,lC,lN])<;>(have:=lP (p:=p) b;omega)):small (([AV.agg [iV u.act,iV u.item,iV u.n,iV u.kind,AV.str u.label,AV.ls (u.head.map aQ),AV.ls (u.words.map aQ),AV.ls (u.kids.map aK)]]).length+((aG p b).map aK).length) 120=true) rt)<|M1 (.obj 3<|aZ 8 true 0 i) (congrArg (aZ 8 true 0) (by(simp only[rA,eD,yz,aT,eb]<;>rfl):[AV.agg [iV u.act,iV u.item,iV u.n,iV u.kind,AV.str u.label,AV.ls (u.head.map aQ),AV.ls (u.words.map aQ),AV.ls (u.kids.map aK)]]++List.map aK (aG p b)=List.map aK ([u]++aG p b)))<|Mg 0<|M2 (.fsl 0 [] 4 i) ti (ce (aU 0) (tA aK ([u]++aG p b) (q++List.map aK (aG p b)).length (sA:([u]++aG p b).length=([AV.agg [iV u.act,iV u.item,iV u.n,iV u.kind,AV.str u.label,AV.ls (u.head.map aQ),AV.ls (u.words.map aQ),AV.ls (u.kids.map aK)]]++List.map aK (aG p b)).length))<|aX iQ<|[u]++aG p b)<|Ml 4 (fg i false<|aX iQ<|[u]++aG p b)<|Mf<|fk (by exact absurd (hs.symm.trans (T9 (by assumption) c (by omega))) (by grind):(AV.nils)=(AV.ls i))) fun c=>Mp (ihn b (by exact aR d.1 g) c)<|Kl 4 30 (dV a)<|K1 0 (.frz 2 [2,3,15,16,17]) (ce rt rt ti)<|Mf<|e (a+1) f () (et (bK d.1 g)<|by grind[iE])<|dn g
  · have rr0:∀b',(h:((aG p u).map aK)=b':=by first|rfl|exact absurd (hs.symm.trans (Gu (by assumption) hj0)) (by decide)|(rw[qL (by assumption),eD,aT];rfl)|(rw[JO (by assumption) hj0 (by assumption)];rfl))→((aG p u).map aK)=b':=(fun _ h=>h);let q:=[ab [iV u.act,iV u.item,iV u.n,iV u.kind,ax u.label,aW (u.head.map aQ),aW (u.words.map aQ),aW (u.kids.map aK)]];let q3:=[iV p.a,iV p.i,iV p.n];exact bH (hv:=(aX iQ (aG p u))) Tryz.func76 (Kv 5 (Eo (d:=(Tryz.prog).underlying 34) (n:=3) (l:=(0,1)::(1,1)::(2,1)::[]) (xs:=[iV u.act,iV u.item,iV u.n]) (ys:=q3) (H:=av [aZ 8 false 0 q,aZ 3 false 0 [ab q3]]) rfl (pd (e:=ah u.act p.a) rfl rfl rfl (pd (e:=ah u.item p.i) rfl rfl rfl (CG (e:=ah u.n p.n) rfl rfl rfl rfl)))) (Mb (ah u.act p.a&&(ah u.item p.i&&ah u.n p.n)) (fun h0=>Kf 2 ((Sa (rr0 q)):Le _ (jq q true))) (fun h0=>Kl 2 16 (Le.len (f:=aK) (l:=u.kids)) (Mg 0 (ML (Nat×List TUnit×Unit) [2,3,15,16,17] (yc p u) (IZ p u) (fun x=>x.2.1.length) (0,u.kids,()) (aU ((yc p u) (0,u.kids,()))) (et (rfl:List.drop 0 (u.kids)=u.kids) (by rfl:(ch p u.kids=ch p u.kids))) (fun x0 hx0 nx0=>Mc x0.2.1 (fun hr0=>have lt0:=eP hx0.1 hr0;have hj0:=gw (J:=fun r x=>ch p u.kids=ch p r) (a:=x0.2.2) hr0 hx0.2;(Kh 0 lt0 (Kf 0 (fk (by exact absurd (hs.symm.trans (Gu (by assumption) hj0)) (by grind):(AV.ps ((aG p u).map aK) false)=(AV.nils)))))) (fun w0 r0 hr0=>let q2:=List.map aK ([u]++aG p w0);have lt0:=fY hx0.1 hr0;have glt0:=am lt0;have nt0:=(eO (enc:=aK) hx0.1 hr0).trans (congrArg some (aT w0));have hj0:=cq (J:=fun r x=>ch p u.kids=ch p r) (a:=x0.2.2) hr0 hx0.2;have q0:nU w0<nU u:=iq (aR hx0.1 hr0);have q1:(aG p w0).length≤nU w0:=lP w0;(Kt 0 lt0 (Mx nt0 (Ks 4 (cV p w0) (fun h2=>Mp (ihy w0 (by exact aR hx0.1 hr0) h2) (Mg 6 (M2 .apl (et (by simp_all[kR]:List.map aK (aG p w0)≠[]) (gg (sz:=8) (f:=aK) (fun _=>by(rw[aT];rfl)) (aG p w0))) (et (by(refine aN (m:=2^21) ?_ ?_ ?_<;>(try simp only[lM,lC,lN])<;>(have:=lP (p:=p) w0;omega)):small (([AV.agg [iV u.act,iV u.item,iV u.n,iV u.kind,AV.str u.label,AV.ls (u.head.map aQ),AV.ls (u.words.map aQ),AV.ls (u.kids.map aK)]]).length+((aG p w0).map aK).length) 120=true) rt) (M1 (.obj 3 (aZ 8 true 0 q2)) (congrArg (aZ 8 true 0) (by(simp only[rA,eD,yz,aT,eb]<;>rfl):[AV.agg [iV u.act,iV u.item,iV u.n,iV u.kind,AV.str u.label,AV.ls (u.head.map aQ),AV.ls (u.words.map aQ),AV.ls (u.kids.map aK)]]++List.map aK (aG p w0)=List.map aK ([u]++aG p w0))) (Mg 0 (M2 (.fsl 0 [] 4 q2) ti (ce (aU (0)) (J4 (f:=aK) (l:=[u]++aG p w0) (n:=(q++List.map aK (aG p w0)).length) (by simp_all:([u]++aG p w0).length=([AV.agg [iV u.act,iV u.item,iV u.n,iV u.kind,AV.str u.label,AV.ls (u.head.map aQ),AV.ls (u.words.map aQ),AV.ls (u.kids.map aK)]]++List.map aK (aG p w0)).length)) (aX iQ ([u]++aG p w0))) (Mf ((Sa (rr0 q2)):Le _ (jq q2 false))))))))) (fun h2=>Mp (ihn w0 (by exact aR hx0.1 hr0) h2) (Kl 4 30 (Le.wr (x:=Int.ofNat x0.1+1) e9) (K1 0 (.frz 2 [2,3,15,16,17]) (ce rt rt ti) (Mf (nx0 (x0.1+1,r0,()) (et (bK hx0.1 hr0) (by grind[iE]:(ch p u.kids=ch p r0))) (dn hr0))))))))))))))))
theorem JP(p:PId)(u:TUnit)(h:By (cV p u) false)(hn:nU u≤2^20):kP 76 [eU u,aV p] .nils:=(E9 p u hn).1 h
theorem E8(p:PId)(u:TUnit)(h:By (cV p u) true)(hn:nU u≤2^20):kP 76 [eU u,aV p] (.ps ((aG p u).map aK) false):=(E9 p u hn).2 h
theorem Rs:kP 110 [.nils] .nils:=by
  exact wk Tryz.func110 (.go 4 .fin)<|bi af
theorem Rr:kP 110 [.ps [] false] (.ps [] true):=by
  exact wk Tryz.func110 (.go 7 .fin)<|bi<|jq [] true
theorem Ru(w:PWord)(r:List PWord)(hl:r.length<2^30):kP 110 [.ls ((w::r).map aQ)] (.ls ((w::r).map aQ)):=by
  let q:=List.map aQ (w::r);exact bH Tryz.func110<|Mg 1<|Mz 3 (fun(a:((w::r).map aQ:List AV)=[])=>Mw .abs<|pw _ _ a)<|Mg 3<|M2 .apl (et (sA:List.map aQ (w::r)≠[])<|fM 4 aQ (w::r) fun _=>rfl) (by(refine aN (m:=2^31) ?_ ?_ ?_<;>first|omega|grind):small ((w::r).map aQ).length 40=true)<|Mg 0<|M2 (.fsl 0 [] 2 q) ti (ce (aU 0) (tA aQ (w::r) q.length (sA:(w::r).length=((w::r).map aQ).length))<|aX ip<|w::r)<|Ml 2 (fg q false<|aX ip<|w::r)<|Mf<|bi<|aW q
theorem MT(p:PId)(u:TUnit)(h:By (cV p u) false)(hn:nU u≤2^20):kP 233 [eU u,.pptr [aV p] 0 0] (.bool false):=by
  have h':cV p u=false:=h
  exact bH Tryz.func233<|Kp 3 (JP p u h hn)<|Kf 1<|bi<|dT false
theorem MS(p:PId)(u:TUnit)(h:By (cV p u) true)(hn:nU u≤2^20):kP 233 [eU u,.pptr [aV p] 0 0] (.bool true):=by
  have h':cV p u=true:=h
  exact bH Tryz.func233<|Kp 3 (E8 p u h hn)<|Kf 1<|bi<|dT true
theorem aak(l:List TUnit)(g:Nat)(q:TUnit→Bool)(hp:∀k,k∈l→kP g [eU k] (.bool (q k)))(hl:l.length<2^40):kP 232 [.ls (l.map aK),.func (.func g) [] []] (iV (dB q l 0)):=by
  have rr0 b' (h:(dB q l 0)=b':=by first|exact mZ zd0 hr0 hj0 ‹_› |exact hj0):=h;exact bH Tryz.func232<|Kl 2 7 (ln aK l)<|Mg 0<|vP aK l [0,1,7,8] (fun a _=>([aW<|l.map aK,bU (bY g) [] [],nV l.length,nV a],[])) (fun a=>dB q l (0:Nat)=dB q a (l.length-a.length)) sA (fun _ _ zd0 _ hr0 a hj0=>Kh 0 a<|Kf 0<|li<|rr0 (-1)) fun a _ zd0 _ b c d hr0 e _ f hj0=>have f:=f.trans<|congrArg some<|aT b;Kt 0 e<|Kx 4 f<|Kp 0 (hp b<|by exact aR zd0 hr0)<|Mb (q b) (fun _=>Kf 1<|li<|rr0<|Int.ofNat a) fun _=>Kl 0 18 (dV a)<|Kf 0<|d<|by exact kJ zd0 hr0 hj0 (by omega)
theorem ZA(l:List TUnit)(g:Nat)(p:PId)(q:TUnit→Bool)(hp:∀k,k∈l→kP g [eU k,.pptr [aV p] 0 0] (.bool (q k)))(hl:l.length<2^40):kP 232 [.ls (l.map aK),.func (.func g) [] [.pptr [aV p] 0 0]] (iV (dB q l 0)):=by
  have rr0 b' (h:(dB q l 0)=b':=by first|exact mZ zd0 hr0 hj0 ‹_› |exact hj0):=h;exact bH Tryz.func232<|Kl 2 7 (ln aK l)<|Mg 0<|vP aK l [0,1,7,8] (fun a _=>([aW<|l.map aK,bU (bY g) [] [AV.pptr [ab [iV p.a,iV p.i,iV p.n]] 0 0],nV l.length,nV a],[])) (fun a=>dB q l (0:Nat)=dB q a (l.length-a.length)) sA (fun _ _ zd0 _ hr0 a hj0=>Kh 0 a<|Kf 0<|li<|rr0 (-1)) fun a _ zd0 _ b c d hr0 e _ f hj0=>have f:=f.trans<|congrArg some<|aT b;Kt 0 e<|Kx 4 f<|Kp 0 (hp b<|by exact aR zd0 hr0)<|Mb (q b) (fun _=>Kf 1<|li<|rr0<|Int.ofNat a) fun _=>Kl 0 18 (dV a)<|Kf 0<|d<|by exact kJ zd0 hr0 hj0 (by omega)
theorem Ry{D a:Nat}{w:TUnit}{r:List TUnit}{u:TUnit}(h:D=Nat.max a (ke (w::r))∧a≤2^20)(q0:nU w<nU u)(q1:mO w<nU w)(hn:nU u≤2^20):D=Nat.max (Nat.max a (1+mO w)) (ke r)∧Nat.max a (1+mO w)≤2^20:=by
  grind[ke]
theorem Ug{D a:Nat}(h:D=Nat.max a (ke [])∧a≤2^20):D=a:=by
  simp_all[CP]
theorem Hk:∀(u:TUnit),nU u≤2^20→kP 218 [eU u] (nV (mO u)):=by
  refine TUnit.ind fun u ih hn=>?_
  have hkl:=bd u
  have ihk:∀k,k∈u.kids→kP 218 [eU k] (nV (mO k)):=fun k hk=>ih k hk (b0 (s6 (iq hk)) hn)
  have rr0 b' (h:(Int.ofNat (mO u))=b':=by(rw[Ll,Ug hj0])):=h;exact bH Tryz.func218<|Kl 5 8 (ln aK u.kids)<|Mg 0<|H0 aK u.kids (0:Nat) [3,7,8,9] (fun a _ b=>([nV b,aW<|u.kids.map aK,nV u.kids.length,nV a],[aZ 8 false 0 [ab [iV u.act,iV u.item,iV u.n,iV u.kind,ax u.label,aW<|u.head.map aQ,aW<|u.words.map aQ,aW<|u.kids.map aK]]])) (fun a b=>ke u.kids=b.max (ke a)∧b≤2^20) sA (fun _ _ a _ _ _ b hj0=>Kh 0 b<|Kf 1<|li<|rr0<|Int.ofNat a) fun a _ b c d e f g i j _ l _=>have l:=(l).trans<|congrArg some<|aT e;have hj0:=cq (J:=fun a b=>ke u.kids=b.max (ke a)∧b≤2^20) (a:=b) i d;have d:=iq<|aR c i;have m:=EK e;Kt 0 j<|Mx l<|Kp 4 (ihk e<|by exact aR c i)<|Kl 0 16 (b8 (x:=(1:Int)+Int.ofNat (mO e)) (n:=(1:Nat)+mO e) e9)<|Kl 0 17 (pz (k:=IntKind.i64)<|WJ b<|1+mO e)<|Kl 1 18 (jU a)<|K1 0 (.frz 1 [3,7,8,9]) (et rt ti)<|Mf<|g (b.max<|1+mO e)<|by exact Ry hj0 d m hn
theorem Lc(g:Nat)(q:TUnit→Bool):∀(u:TUnit),(∀x,x∈bo u→kP g [eU x] (.bool (q x)))→u.kids.length<2^40→(∀x,x∈bo u→x.kids.length<2^40)→kP 219 [eU u,.func (.func g) [] []] (.bool (vN q u)):=by
  refine TUnit.ind fun u ih hp hl hk=>?_
  have ihk:∀k,k∈u.kids→kP 219 [eU k,.func (.func g) [] []] (.bool (vN q k)):=fun k hm=>ih k hm (fun x hx=>hp x (bA hm hx)) (hk k (LK hm)) (fun x hx=>hk x (bA hm hx))
  have hs:=hp u (dq u)
  have rr0 b' (h:(vN q u)=b':=by first|(rw[yU];simp only[aS,ak,bS, *];done)|(rw[yU,hj0,OQ])|(rw[yU,hj0,AO];simp only[aS,ak,bS, *];done)):=h;exact bH Tryz.func219<|Kp 3 hs<|Kn 0 (q u) (fun _=>Ky 0<|rr0 false) fun _=>Kl 2 13 (ln aK u.kids)<|K1 0 (.frz 0 [1,12,13,14]) ti<|vP aK u.kids [1,12,13,14] (fun a _=>([bU (bY g) [] [],aW<|u.kids.map aK,nV u.kids.length,nV a],[])) (fun a=>(q u&&(dr u.kids).all q)=(dr a).all q) (by(simp only[aS,ak,bS, *];done)) (fun _ _ _ _ _ a hj0=>Kh 0 a<|Ky 0<|rr0 true) fun a _ b _ c d e f i _ j hj0=>have j:=j.trans<|congrArg some<|aT c;Kt 0 i<|Mx j<|Kp 4 (ihk c<|by exact aR b f)<|Kn 0 (vN q c) (fun _=>Kf 0<|cb<|rr0 false) fun _=>Kl 0 22 (dV a)<|K1 0 (.frz 0 [1,12,13,14]) ti<|Mf<|e<|by simp_all[AO]
theorem NL(u:TUnit)(n:Nat)(hn:n<2^40):kD 220 [eU u,.ptr 0 0 0 0] (av [.row 1 false 0 [nV n]]) (.bool true) (av [.row 1 false 0 [nV (n+1)]]):=by
  exact eV Tryz.func220 fun a=>Kl 3 5 (jU n)<|K1 1 (.frz 1 [3]) (et rt ti)<|Mf a
theorem G7:∀(u:TUnit),∀(n:Nat),n+nU u<2^40→kD 219 [eU u,.func (.func 220) [] [.ptr 0 0 0 0]] (av [.row 1 false 0 [nV n]]) (.bool true) (av [.row 1 false 0 [nV (n+nU u)]]):=by
  refine TUnit.ind fun u ih n hn=>?_
  have hq:=iT u
  have hl:=bd u
  exact Oj Tryz.func219<|K1 3 (.frz 1 [1,2,7,8]) (et rt ti)<|Me (NL u n oA)<|Kl 4 13 (ln aK u.kids)<|Mg 0<|H0 aK u.kids (n+1) [1,12,13,14] (fun a _ b=>([bU (bY 220) [] [bz 0 0 0 0],aW<|u.kids.map aK,nV u.kids.length,nV a],[aZ 1 false 0 [nV b]])) (fun a b=>n+nU u=b+eW a∧b+eW a<2^40) oA (fun _ _ a _ _ _ b _=>Kh 0 b<|Kf 0<|et (aU<|dT true) (by simp_all[l0]:(av [AObj.row 1 false 0 [nV a]])=(av [AObj.row 1 false 0 [nV (n+nU u)]]))) fun a _ b c _ d e f g h _ i _=>have i:=i.trans<|congrArg some<|aT d;have c:=aR c g;have g:b+nU d<2^40:=(by grind[bf]);Kt 0 h<|Mx i<|K1 4 (.frz 1 [1,12,13,14,18,19]) (et rt ti)<|Me (ih d c b g)<|Kl 2 22 (jU a)<|Kf 0<|f (b+nU d)<|by grind[bf]
theorem EY(u:TUnit)(hn:nU u<2^39):kP 156 [eU u] (nV (nU u)):=by
  have rr0 b' (h:(Int.ofNat (nU u))=b':=by(rw[fw])):=h;exact bH Tryz.func156<|Mg 5<|M0 (.ren [1,0] [] [3,4,5])<|M1 (.frz 1 [3,4,5]) (et rt ti)<|Me (G7 u 0 oA)<|Kf 1<|li<|rr0<|Int.ofNat<|0+nU u
noncomputable abbrev rp(ep n:Nat):AObj:=.row 1 false 0 [.slice 1 ep 0 n none]
noncomputable abbrev MG(ep:Nat)(l:List PId):AObj:=.row 3 true ep (l.map aV)
theorem Wr(u:TUnit):kD 221 [eU u,.ptr 0 0 0 0] (av [.row 1 false 0 [.nils]]) (.bool true) (av [rp 0 1,MG 0 [bj u]]):=by
  exact Z8 Tryz.func221 (.go 8<|.ren [0,2,1] [] [3]<|.frz 2 [3] .fin) fun a=>et (ce rt rt ti) a
theorem Ws(u:TUnit)(ep n:Nat)(l:List PId)(hn:n=l.length)(hl:l.length<2^30):kD 221 [eU u,.ptr 0 0 0 0] (av [rp ep n,MG ep l]) (.bool true) (av [rp (ep+1) (n+1),MG (ep+1) (l++[bj u])]):=by
  exact eV Tryz.func221 fun a=>K1 5 .app (ce (aU ep) (sA:n=(l.map aV).length) (by(refine aN (m:=2^31) ?_ ?_ ?_<;>omega):small (n+1) 24=true))<|M1 (.obj 1<|aZ 3 true (ep+1)<|(l++[PId.mk u.act u.item u.n]).map aV) (congrArg (aZ 3 true<|ep+1)<|dQ (f:=aV) (l:=l) (ws:=[PId.mk u.act u.item u.n]))<|K1 1 (.frz 2 [3]) (ce (tR 3 true (ep+1) 2<|aX Jb<|l++[PId.mk u.act u.item u.n]) rt ti)<|Mf a
theorem NC:∀(u:TUnit),∀(ep n:Nat)(l:List PId),n=l.length→l.length+nU u<2^30→kC 219 [eU u,.func (.func 221) [] [.ptr 0 0 0 0]] (av [rp ep n,MG ep l])
    (fun v h=>∃y:Nat×Nat×List PId,(y.2.1=y.2.2.length∧y.2.2=l++dj u)∧v=.bool true∧h=av [rp y.1 y.2.1,MG y.1 y.2.2]):=by
  refine TUnit.ind fun u ih ep n l hn hl=>?_
  have hq:=iT u
  have hkl:=bd u
  exact pO Tryz.func219 fun a=>K1 3 (.frz 2 [1,2,7,8]) (ce (tR 3 true ep 2<|aX Jb l) rt ti)<|Me (Ws u ep n l hn oA)<|Kl 4 13 (ln aK u.kids)<|Mg 0<|U8 aK u.kids (ep+1) (n+1) (l++[bj u]) [1,12,13,14] (fun a _ b c d=>([bU (bY 221) [] [bz 0 0 0 0],aW<|u.kids.map aK,nV u.kids.length,nV a],[aZ 1 false 0 [aM 1 b 0 c none],aZ 3 true b<|d.map aV])) (fun a _ b c=>b=c.length∧c++ia a=l++[bj u]++ia u.kids∧c.length+eW a<2^30) gR (fun _ _ b c d _ _ _ e _=>Kh 0 e<|Kf 0<|a (b,c,d)<|by grind[rY,nY]) fun a _ b c d e f g i j k m _ o _=>have o:=(o).trans<|congrArg some<|aT g;have:=cq (J:=fun a b=>b.2.1=b.2.2.length∧b.2.2++ia a=l++[bj u]++ia u.kids∧b.2.2.length+eW a<2^30) (a:=(b,c,d)) k f;have e:=aR e k;have f:d.length+nU g<2^30:=(by grind[bf]);Kt 0 m<|Mx o<|K1 4 (.frz 2 [1,12,13,14,18,19]) (ce (tR 3 true b 2<|aX Jb d) rt ti)<|Mq (ih g e b c d oA f) fun b _=>Kl 2 22 (dV a)<|Kf 0<|j b.1 b.2.1 b.2.2<|by grind[bf,gK,uV]
theorem VU(l:List PWord)(hl:l.length≤300)(hs:∀w,w∈l→w.text.length≤2^39):kP 305 [.ls (l.map aQ)] (.bool (oa l)):=by
  have hv:=Kg (l.map PWord.text) (by grind) (fun s hm=>by grind)
  have rr0 b' (h:(oa l)=b':=by(simp only[oa,aS,ak,bS, *])):=h;exact bH Tryz.func305<|Kl 3 7 (ln aQ l)<|Mg 0<|kh Nat Nat (List aO) aQ l [0,3,6,7,8] (fun a _=>([aW<|l.map aQ,af,aW<|l.map aQ,nV l.length,nV a],[])) (fun a _ b c d=>([aW<|l.map aQ,aM 0 b 0 c none,aW<|l.map aQ,nV l.length,nV a],[aZ 1 true b<|d.map mN])) (fun a=>a=l) (fun a _ b c=>b=c.length∧(0:Nat)<c.length∧c++List.map PWord.text a=List.map PWord.text l∧c.length+a.length=l.length) (by rfl) (fun _ _ _ _ _ a _=>Kh 0 a<|Kl 1 19 (ln aQ l)<|Kd 1 256 (Int.ofNat l.length) (fun a _=>Kt 0 (cH a)<|Mp (bX.onArgs (.cons (Le.lsn (sA:((l.map PWord.text).map mN)=[])) .nil) hv:kP 236 [af] _)<|MV (cH a)<|Kf 0<|cb<|rr0<|qJ<|l.map PWord.text) fun a _=>Mh (bR a)<|My (bR a)<|Kf 0<|cb<|rr0 false) (fun a _ _ _ b c _ d _ e _ f g=>Kt 0 e<|Mx f<|Kl 9 17 (jU a)<|Mg 0<|M0 (.ren [1,0] [] [0,3,6,7,8])<|M1 (.frz 1 [0,3,6,7,8]) (et rt ti)<|Mf<|d 0 1 [b.text]<|by(refine⟨rfl,by simp,?_,?_⟩<;>(rw[←g])<;>(first|rfl|grind))) (fun _ _ a b c _ _ _ d _=>Kh 0 d<|Kl 1 19 (ln aQ l)<|Kd 1 256 (Int.ofNat l.length) (fun d _=>Mg 0<|M2 (.fsl 0 [21] 22<|c.map mN) ti (ce (aU a) (tA mN c b (oA:(c).length=b))<|aX Ja c)<|Ml 22 (fg (c.map mN) false<|aX Ja c)<|Mt (cH d)<|Mp (bX.onArgs (.cons (cW (sA:((l.map PWord.text).map mN)=(c.map mN))) .nil) hv:kP 236 [aW (c.map mN)] _)<|MV (cH d)<|Kf 0<|cb<|rr0<|qJ<|l.map PWord.text) fun a _=>Mh (bR a)<|My (bR a)<|Kf 0<|cb<|rr0 false) fun a _ b c d _ _ e f _ g _ i _ j k=>Kt 0 i<|Mx j<|K1 6 .app (ce (aU b) (sA:c=(d.map mN).length) (by(refine aN (m:=2^20) ?_ ?_ ?_<;>omega):small (c+1) 16=true))<|M1 (.obj 0<|aZ 1 true (b+1)<|(d++[e.text]).map mN) (congrArg (aZ 1 true<|b+1)<|dQ (f:=mN) (l:=d) (ws:=[e.text]))<|Kl 1 17 (jU a)<|K1 0 (.frz 1 [0,3,6,7,8]) (et (tR 1 true (b+1) 1<|aX Ja<|d++[e.text]) ti)<|Mf<|g (b+1) (c+1) (d++[e.text])<|by(refine⟨by simp_all,by simp,?_,?_⟩<;>first|(rw[←k.2.2.1];simp;done)|grind)
theorem oH(a b:Nat):Int.ofNat (a+b)=Int.ofNat a+Int.ofNat b:=rfl
theorem SY(u:TUnit)(h1:u.head.length≤300)(h2:u.words.length≤300)(h3:u.kids.length<2^30)(h4:u.label.length≤2^39)(h5:∀w,w∈u.head→w.text.length≤2^39)(h6:∀w,w∈u.words→w.text.length≤2^39):kP 289 [eU u] (.bool (lH u)):=by
  have hlk:∀(m:List ((Int×aO)×Bool))(a:Int)(s:aO),dZ (some (.bool false)) false (bQ true 2 [(0,1),(1,2)] (.agg [iV a,.str s]) (cQ pe dw m 0) 0)=some (.bool (Oy mL (a,s) m)):=fun m a s=>GW LV m (a,s)
  have hup:∀(m:List ((Int×aO)×Bool))(a:Int)(s:aO),nM (cQ pe dw m 0) m.length (.agg [iV a,.str s]) (.bool true) (bQ true 2 [(0,1),(1,2)] (.agg [iV a,.str s]) (cQ pe dw m 0) 0)=some (cQ pe dw (ft mL (a,s) true m) 0,(ft mL (a,s) true m).length):=fun m a s=>JS LV m (a,s)
  have r1:=VU u.head h1 h5
  have r2:=VU u.words h2 h6
  have r3:=tT u.label h4
  have rr0 b' (h:(lH u)=b':=by first|(rw[lH,hj0,mE];simp only[DF,bw,oH,cond_true,cond_false,aS,ak,bS,wW,yx,Bool.not_true,Bp,Bool.true_and, *];first|done|rfl)|(simp only[lH,DF,bw,oH,cond_true,cond_false,aS,ak,bS, *];done)|(simp only[lH,mE,DF,bw,oH,cond_true,cond_false,aS,ak,bS, *];done)|(simp only[lH,mE,DF,bw,oH,cond_true,cond_false,aS,ak,bS,wW,yx,Bool.not_true,Bp,Bool.true_and, *];first|done|rfl)):=h;exact bH Tryz.func289<|Kj 4 u.kind 0 (fun _ b=>Kn 3 (eJ u.label (ByteArray.mk #[]).data.toList) (fun b=>Mt (cH b)<|Mt (cH b)<|Mt (cH b)<|Mt (cH b)<|Mt (cH b)<|Mt (cH b)<|Mt (cH b)<|MV (cH b)<|Ky 1<|rr0 false) fun c=>Kh 0 (bR c)<|Kh 0 (bR c)<|Kl 0 16 (ln aQ u.head)<|Mh (bR c)<|Kh 0 (bR c)<|Kh 0 (bR c)<|Kl 0 19 (ln aQ u.words)<|Mh (bR c)<|Kl 0 20 (Le.wr (x:=Int.ofNat u.head.length+Int.ofNat u.words.length) e9)<|Mh (bR c)<|Kw 0 (bR c)<|Mb (ap 0<|Int.ofNat u.head.length+Int.ofNat u.words.length) (fun b=>have:=am b;Ky 0<|rr0 false) fun c=>have:=aE c;Kl 4 48 (ln aK u.kids)<|Mg 0<|H0 aK u.kids ([]:List ((Int×aO)×Bool)) [1,3,47,48,49] (fun b _ c=>([bz 0 0 0 0,AV.map 1,aW<|u.kids.map aK,nV u.kids.length,nV b],[aZ 8 false 0 [ab [iV u.act,iV u.item,iV u.n,iV u.kind,ax u.label,aW<|u.head.map aQ,aW<|u.words.map aQ,aW<|u.kids.map aK]],AObj.map (cQ pe dw c 0) c.length])) (fun b c=>mE u.kind u.kids []=mE u.kind b c) (by rfl) (fun _ _ _ _ _ _ b hj0=>Kh 0 b<|Kl 2 74 (ln aK u.kids)<|Kf 1<|cb<|rr0<|ak<|ap 64<|Int.ofNat u.kids.length) fun c _ d _ _ e f g _ i _ j hj0=>have j:=j.trans<|congrArg some<|aT e;Kt 0 i<|Mx j<|Kl 11 59 (pz (k:=IntKind.i64) b)<|Kp 1 (zk 0 e.kind)<|Kn 1 (jW 0 e.kind) (fun b=>Mt (cH b)<|Mt (cH b)<|MV (cH b)<|Ky 1<|rr0 false) fun b=>Kh 0 (bR b)<|Kh 0 (bR b)<|M1 (.look<|dT<|Oy mL (e.kind,e.label) d) (hlk d e.kind e.label)<|My (bR b)<|Mb (Oy mL (e.kind,e.label) d) (fun _=>Kf 0<|cb<|rr0 false) fun _=>K1 1 (.upd (cQ pe dw (ft mL (e.kind,e.label) true d) 0) (ft mL (e.kind,e.label) true d).length) (hup d e.kind e.label)<|Kl 0 71 (dV c)<|K1 0 (.frz 2 [1,3,47,48,49]) (ce (tM (ft mL (e.kind,e.label) true d).length 2 (by exact cJ LV Aw _ _:fq (cQ pe dw (ft mL (e.kind,e.label) true d) 0)=0)) rt ti)<|Mf<|g (ft mL (e.kind,e.label) true d)<|by(rw[hj0,mE];simp only[aS,ak,bS, *];done)) fun _ _=>Kp 1 (wD u.kind)<|Kb 1 (eJ (c8 u.kind) (ByteArray.mk #[]).data.toList) (fun b=>Mt b<|Mt b<|Mt b<|MV b<|Ky 5<|rr0 false) fun b=>Kh 0 b<|Kh 0 b<|Mp r3<|Mh b<|Kw 0 b<|Kn 0 (kX u.label) (fun b=>Mt (cH b)<|Mt (cH b)<|Mt (cH b)<|MV (cH b)<|Ky 3<|rr0 false) fun b=>Kh 0 (bR b)<|Kh 0 (bR b)<|Mp r1<|Mh (bR b)<|Kw 0 (bR b)<|Kn 0 (oa u.head) (fun b=>Mt (cH b)<|Mt (cH b)<|Mt (cH b)<|MV (cH b)<|Ky 1<|rr0 false) fun b=>Kh 0 (bR b)<|Kh 0 (bR b)<|Mp r2<|Mh (bR b)<|Kw 0 (bR b)<|Mn (oa u.words) (fun _=>Ky 0<|rr0 false) fun _=>Kl 4 48 (ln aK u.kids)<|Mg 0<|H0 aK u.kids ([]:List ((Int×aO)×Bool)) [1,3,47,48,49] (fun b _ c=>([bz 0 0 0 0,AV.map 1,aW<|u.kids.map aK,nV u.kids.length,nV b],[aZ 8 false 0 [ab [iV u.act,iV u.item,iV u.n,iV u.kind,ax u.label,aW<|u.head.map aQ,aW<|u.words.map aQ,aW<|u.kids.map aK]],AObj.map (cQ pe dw c 0) c.length])) (fun b c=>mE u.kind u.kids []=mE u.kind b c) (by rfl) (fun _ _ _ _ _ _ b hj0=>Kh 0 b<|Kl 2 74 (ln aK u.kids)<|Kf 1<|cb<|rr0<|ak<|ap 64<|Int.ofNat u.kids.length) fun b _ c _ _ d e f _ g _ i hj0=>have i:=i.trans<|congrArg some<|aT d;Kt 0 g<|Mx i<|Kp 13 (zk u.kind d.kind)<|Kn 1 (jW u.kind d.kind) (fun b=>Mt (cH b)<|Mt (cH b)<|MV (cH b)<|Ky 1<|rr0 false) fun g=>Kh 0 (bR g)<|Kh 0 (bR g)<|M1 (.look<|dT<|Oy mL (d.kind,d.label) c) (hlk c d.kind d.label)<|My (bR g)<|Mb (Oy mL (d.kind,d.label) c) (fun _=>Kf 0<|cb<|rr0 false) fun _=>K1 1 (.upd (cQ pe dw (ft mL (d.kind,d.label) true c) 0) (ft mL (d.kind,d.label) true c).length) (hup c d.kind d.label)<|Kl 0 71 (dV b)<|K1 0 (.frz 2 [1,3,47,48,49]) (ce (tM (ft mL (d.kind,d.label) true c).length 2 (by exact cJ LV Aw _ _:fq (cQ pe dw (ft mL (d.kind,d.label) true c) 0)=0)) rt ti)<|Mf<|f (ft mL (d.kind,d.label) true c)<|by(rw[hj0,mE];simp only[aS,ak,bS, *];done)
theorem Jq(u:TUnit)(hl:nU u<2^29):kC 219 [eU u,.func (.func 221) [] [.ptr 0 0 0 0]] (av [.row 1 false 0 [.nils]])
    (fun v h=>∃y:Nat×Nat×List PId,(y.2.1=y.2.2.length∧y.2.2=dj u)∧v=.bool true∧h=av [rp y.1 y.2.1,MG y.1 y.2.2]):=by
  have hq:=iT u
  have hkl:=bd u
  exact pO Tryz.func219 fun a=>K1 3 (.frz 1 [1,2,7,8]) (et rt ti)<|Me (Wr u)<|Kl 4 13 (ln aK u.kids)<|Mg 0<|U8 aK u.kids (0:Nat) (1:Nat) ([bj u]:List PId) [1,12,13,14] (fun a _ b c d=>([bU (bY 221) [] [bz 0 0 0 0],aW<|u.kids.map aK,nV u.kids.length,nV a],[aZ 1 false 0 [aM 1 b 0 c none],aZ 3 true b<|d.map aV])) (fun a _ b c=>b=c.length∧c++ia a=[bj u]++ia u.kids∧c.length+eW a<2^30) gR (fun _ _ b c d _ _ _ e f=>Kh 0 e<|Kf 0<|a (b,c,d)<|by(refine⟨f.1,?_⟩;have:=f.2.1;rw[rY,ec]at this;rw[this,nY];rfl)) fun a _ b c d e f g i j k l _ m _=>have m:=(m).trans<|congrArg some<|aT g;have:=cq (J:=fun a b=>b.2.1=b.2.2.length∧b.2.2++ia a=[bj u]++ia u.kids∧b.2.2.length+eW a<2^30) (a:=(b,c,d)) k f;have:=aR e k;have e:d.length+nU g<2^30:=(by grind[bf]);Kt 0 l<|Mx m<|K1 4 (.frz 2 [1,12,13,14,18,19]) (ce (tR 3 true b 2<|aX Jb d) rt ti)<|Mq (NC g b c d oA e) fun b _=>Kl 2 22 (dV a)<|Kf 0<|j b.1 b.2.1 b.2.2<|by grind[bf,gK,uV]
theorem Qs(u:TUnit)(hl:nU u<2^29):kP 157 [eU u] (.ls ((dj u).map aV)):=by
  have rr0 b' (h:((dj u).map aV)=b':=by(rw[hy0.2])):=h;exact bH Tryz.func157<|Mg 4<|M0 (.ren [1,0] [] [3,4,5])<|M1 (.frz 1 [3,4,5]) (et rt ti)<|Mq (Jq u hl) fun a hy0=>Mg 1<|M2 (.fsl 0 [] 2<|a.2.2.map aV) ti (ce (aU a.1) (tA aV a.2.2 a.2.1 (oA:(a.2.2).length=a.2.1))<|aX Jb a.2.2)<|Ml 2 (fg (a.2.2.map aV) false<|aX Jb a.2.2)<|Mf<|cW<|rr0<|a.2.2.map aV
theorem Wp(u:TUnit)(hl:nU u<2^20):kP 290 [eU u] (.bool (Qt u)):=by
  have hb:(dj u).length<2^20:=by grind[uV]
  have hi:=Qs u (by omega)
  have hlk:∀(m:List (PId×Bool))(a b c:Int),dZ (some (.bool false)) false (bQ true 3 [(0,1),(1,1),(2,1)] (.agg [iV a,iV b,iV c]) (cQ aV dw m 0) 0)=some (.bool (Oy bu ⟨a,b,c⟩ m)):=fun m a b c=>GW I6 m ⟨a,b,c⟩
  have hup:∀(m:List (PId×Bool))(a b c:Int),nM (cQ aV dw m 0) m.length (.agg [iV a,iV b,iV c]) (.bool true) (bQ true 3 [(0,1),(1,1),(2,1)] (.agg [iV a,iV b,iV c]) (cQ aV dw m 0) 0)=some (cQ aV dw (ft bu ⟨a,b,c⟩ true m) 0,(ft bu ⟨a,b,c⟩ true m).length):=fun m a b c=>JS I6 m ⟨a,b,c⟩
  have rr0 b' (h:(Qt u)=b':=by((try clear gh1);(try clear gh2);(try clear gh3);(try clear gh4);(try clear gh5);(try clear gh6);(try clear gh7);have e:=CM (kenc:=aV) (f:=dw) za0 0;simp only[e,lM]at *;simp only[Qt,fE,bu,bj,bT,hj0,MK,aS,ak,bS, *];first|done|rfl)):=h;exact bH Tryz.func290<|Kp 2 hi<|Kl 4 12 (ln aV<|dj u)<|Mg 0<|H0 aV (dj u) ([]:List (PId×Bool)) [1,3,4,11,12,13] (fun d _ g=>([bz 0 0 0 0,aW<|(dj u).map aV,AV.map 1,aW<|(dj u).map aV,nV (dj u).length,nV d],[aZ 8 false 0 [ab [iV u.act,iV u.item,iV u.n,iV u.kind,ax u.label,aW<|u.head.map aQ,aW<|u.words.map aQ,aW<|u.kids.map aK]],AObj.map (cQ aV dw g 0) g.length])) (fun d g=>B7 (dj u) []=B7 d g) (by rfl) (fun _ _ za0 _ _ _ d hj0=>Kh 0 d<|K1 1 (.look<|dT<|Oy bu (PId.mk 0 0 0) za0) (hlk za0 0 0 0)<|Kb 2 (Oy bu (PId.mk 0 0 0) za0) (fun d=>Kt 0 d<|Kt 0 d<|Ku 0 d<|Kj 0 (Int.ofNat (cQ aV dw za0 0).length) 1 (fun d gh2=>Mt d<|Mt d<|Mt d<|Mt d<|Mt d<|Mt d<|MV d<|Ky 0<|rr0 true) fun d gh2=>Kh 0 d<|Kh 0 d<|Kh 0 d<|Kh 0 d<|Kh 0 d<|Kj 0 (Int.ofNat (cQ aV dw za0 0).length) (Int.ofNat ((dj u).map aV).length) (fun g gh3=>Kt 0 g<|Kt 0 g<|Kt 0 g<|Kt 0 g<|Kt 0 g<|Kt 0 g<|Mv (lY ((Tryz.prog).underlying 34) u.act u.item u.n 0 0 0 h0)<|Mt g<|Kh 0 d<|MV g<|My d<|Kf 0<|cb<|rr0<|ah u.kind 0==(ah u.act 0&&(ah u.item 0&&ah u.n 0))) fun g gh3=>Mh g<|Mh g<|Mh g<|Mh g<|Mh g<|Mh g<|Mh g<|Mh d<|My g<|My d<|Ky 0<|rr0 false) fun d=>Mh d<|Mh d<|My d<|Kj 6 (Int.ofNat (cQ aV dw za0 0).length) (Int.ofNat ((dj u).map aV).length) (fun d gh4=>Kt 0 d<|Kt 0 d<|Kt 0 d<|Kt 0 d<|Kt 0 d<|Kt 0 d<|Mv (lY ((Tryz.prog).underlying 34) u.act u.item u.n 0 0 0 h0)<|Mt d<|Ku 0 d<|Kf 1<|cb<|rr0<|ah u.kind 0==(ah u.act 0&&(ah u.item 0&&ah u.n 0))) fun d gh4=>Mh d<|Mh d<|Mh d<|Mh d<|Mh d<|Mh d<|Mh d<|My d<|Ky 1<|rr0 false) fun d _ za0 _ _ g i j _ k _ l hj0=>Kt 0 k<|Mx l<|K1 4 (.upd (cQ aV dw (ft bu (PId.mk g.a g.i g.n) true za0) 0) (ft bu (PId.mk g.a g.i g.n) true za0).length) (hup za0 g.a g.i g.n)<|Kl 0 19 (jU d)<|K1 0 (.frz 2 [1,3,4,11,12,13]) (ce (tM (ft bu (PId.mk g.a g.i g.n) true za0).length 2 (by exact cJ I6 Aw _ _:fq (cQ aV dw (ft bu (PId.mk g.a g.i g.n) true za0) 0)=0)) rt ti)<|Mf<|j (ft bu (PId.mk g.a g.i g.n) true za0)<|by(rw[hj0];rfl)
/-- What a tree's parts must be, so that the walks can count. -/
def rG(x:TUnit):Prop:=x.head.length≤300∧x.words.length≤300∧x.label.length≤2^39∧(∀w,w∈x.head→w.text.length≤2^39)∧∀w,w∈x.words→w.text.length≤2^39
def md(u:TUnit):Prop:=nU u≤2^19∧∀x,x∈bo u→rG x
theorem G8(u:TUnit)(h:md u):kP 219 [eU u,.func (.func 289) [] []] (.bool (vN lH u)):=
  Lc 289 lH u
    (fun x hx=>by
      obtain⟨a,b,c,d,e⟩:=h.2 x hx
      have h1:=bd x
      have h2:=dM hx
      have h3:=h.1
      grind[SY])
    (by have h1:=bd u;have h3:=h.1;omega)
    (fun x hx=>by
      have h1:=bd x
      have h2:=dM hx
      have h3:=h.1
      omega)
theorem xr(u:TUnit)(h:md u):kP 260 [eU u] (.bool (ko u)):=by
  have h1:=h.1
  have e1:=G8 u h
  have e2:=Hk u (by omega)
  have e3:=EY u (by omega)
  have e4:=Wp u (by omega)
  have hd:=EK u
  have rr0 b' (h:(ko u)=b':=by(simp only[ko,aS,ak,bS, *];done)):=h;exact bH Tryz.func260<|Kp 2 e1<|Kb 0 (vN lH u) (fun a=>Kt 0 a<|Mp e2<|Mt a<|Ku 0 a<|Kn 0 (ap 8<|Int.ofNat<|mO u) (fun a=>Kt 0 (cH a)<|Mp e3<|Mt (cH a)<|Ku 0 (cH a)<|Kn 0 (ap 1024<|Int.ofNat<|nU u) (fun a=>Kt 0 (cH a)<|Mp e4<|MV (cH a)<|Kf 0<|cb<|rr0<|Qt u) fun a=>Mh (bR a)<|My (bR a)<|Ky 0<|rr0 false) fun a=>Mh (bR a)<|Mh (bR a)<|My (bR a)<|Ky 2<|rr0 false) fun a=>Mh a<|Mh a<|My a<|Ky 4<|rr0 false
theorem ry(l:List PWord)(hl:l.length<2^30):kP 110 [.ls (l.map aQ)] (.ls (l.map aQ)):=by
  cases l with
  |nil=>exact bX.ls0 (Rs.less Le.nils) (Rr.lessB (u:=.ls []) (by kernel_rfl))
  |cons w r=>grind[Ru]
noncomputable abbrev wK:AObj:=.row 8 false 0 [.agg [iV 0,iV 0,iV 0,iV 0,.str [],.nils,.nils,.nils]]
theorem Ha:∀(u:TUnit),nU u≤2^20→(∀x,x∈bo u→x.head.length<2^30∧x.words.length<2^30)→kP 77 [eU u] (eU u):=by
  refine TUnit.ind fun u ih hn ht=>?_
  have hkl:=bd u
  have c1:=ry u.head (ht u (dq u)).1
  have c2:=ry u.words (ht u (dq u)).2
  have ihk:∀k,k∈u.kids→kP 77 [eU k] (eU k):=fun k hk=>ih k hk (b0 (s6 (iq hk)) hn) (fun x hx=>ht x (bA hk hx))
  have rr0 b' (h:(u.kids.map aK)=b':=by first|rfl|(rw[←hj0];rfl)|(rw[←hj0.2.2.1,ec])):=h;let q1:=List.map aQ u.words;let q2:=List.map aQ u.head;exact bH Tryz.func77<|Kp 3 c1<|Kp 1 c2<|Kl 7 16 (ln aK u.kids)<|Mg 0<|kh Nat Nat (List TUnit) aK u.kids [1,2,3,15,16,17] (fun a _=>([bz 0 0 0 0,bz 1 0 0 0,af,aW<|u.kids.map aK,nV u.kids.length,nV a],[aZ 8 false 0 [ab [iV u.act,iV u.item,iV u.n,iV u.kind,ax u.label,aW<|u.head.map aQ,aW<|u.words.map aQ,aW<|u.kids.map aK]],aZ 8 false 0 [ab [iV 0,iV 0,iV 0,iV 0,ax [],af,af,af]]])) (fun a _ b c d=>([bz 0 0 0 0,bz 1 0 0 0,aM 2 b 0 c none,aW<|u.kids.map aK,nV u.kids.length,nV a],[aZ 8 false 0 [ab [iV u.act,iV u.item,iV u.n,iV u.kind,ax u.label,aW<|u.head.map aQ,aW<|u.words.map aQ,aW<|u.kids.map aK]],aZ 8 false 0 [ab [iV 0,iV 0,iV 0,iV 0,ax [],af,af,af]],aZ 8 true b<|d.map aK])) (fun a=>a=u.kids) (fun a _ b c=>b=c.length∧(0:Nat)<c.length∧c++a=u.kids∧c.length+a.length=u.kids.length) (by rfl) (fun _ _ _ _ _ a hj0=>Kh 0 a<|Kl 0 27 bI<|Kf 3 (bZ (lc<|lc<|lc<|lc<|lc<|lc<|lc<|.cons (cW<|rr0 []) .nil)<|by kernel_rfl:Le _ (AV.agg [iV u.act,iV u.item,iV u.n,iV u.kind,AV.str u.label,AV.ls q2,AV.ls q1,AV.ls []]))) (fun a _ _ b c d _ e f g _ i _=>have i:=(i).trans<|congrArg some<|aT c;have hj0:=cq (J:=fun a _=>a=u.kids) (a:=()) f b;Kt 0 g<|Mx i<|Kp 4 (ihk c gR)<|K1 1 (.obj 3<|aZ 8 true 0<|List.map aK [c]) (congrArg (aZ 8 true 0)<|TA (f:=aK) (g:=Go.Ev.eU) (ws:=[c]) aT)<|Kl 1 26 (dV a)<|K1 0 (.ren [0,1,3,2] [3] [1,2,3,15,16,17]) (tS 8 true 0<|aX iQ [c])<|M1 (.frz 3 [1,2,3,15,16,17]) (jQ (tR 8 true 0 3<|aX iQ [c]) rt rt ti)<|Mf<|e 0 1 [c]<|by(refine⟨rfl,by simp,?_,?_⟩<;>(rw[←hj0])<;>(first|rfl|grind))) (fun _ _ a b c _ _ _ d hj0=>let e:=List.map aK c;Kh 0 d<|Mg 0<|M2 (.fsl 2 [1,2] 27 e) (ce rt rt ti) (ce (aU a) (tA aK c b (oA:(c).length=b))<|aX iQ c)<|Ml 27 (fg e false<|aX iQ c)<|Kf 3 (bZ (lc<|lc<|lc<|lc<|lc<|lc<|lc<|.cons (cW<|rr0 e) .nil)<|by kernel_rfl:Le _ (AV.agg [iV u.act,iV u.item,iV u.n,iV u.kind,AV.str u.label,AV.ls q2,AV.ls q1,AV.ls e]))) fun a _ b c d _ e f g _ i j l _ n _=>have n:=(n).trans<|congrArg some<|aT f;have hj0:=cq (J:=fun a b=>b.2.1=b.2.2.length∧(0:Nat)<b.2.2.length∧b.2.2++a=u.kids∧b.2.2.length+a.length=u.kids.length) (a:=(b,c,d)) j e;Kt 0 l<|Mx n<|Kp 4 (ihk f gR)<|K1 0 .app (ce (aU b) (sA:c=(d.map aK).length) (by(refine aN (m:=2^21) ?_ ?_ ?_<;>omega):small (c+1) 120=true))<|M1 (.obj 2<|aZ 8 true (b+1)<|(d++[f]).map aK) (congrArg (aZ 8 true<|b+1)<|xP (f:=aK) (g:=Go.Ev.eU) (l:=d) (ws:=[f]) aT)<|Kl 1 26 (dV a)<|K1 0 (.frz 3 [1,2,3,15,16,17]) (jQ (tR 8 true (b+1) 3<|aX iQ<|d++[f]) rt rt ti)<|Mf<|i (b+1) (c+1) (d++[f])<|by(refine⟨by simp_all,by simp,?_,?_⟩<;>first|(rw[←hj0.2.2.1];simp;done)|grind)
theorem WI(p:PId)(u:TUnit)(h:By (cV p u) true)(hn:nU u≤2^20)(ht:∀x,x∈bo u→x.head.length<2^30∧x.words.length<2^30):kP 62 [eU u,aV p] (.tuple [eU (ef p u),.bool true]):=by
  have hw:=E8 p u h hn
  have hlen:=lP (p:=p) u
  have hpos:0<(aG p u).length:=pI.2 (kR h)
  have hm:ef p u∈bo u:=JR u _ (Q5 h)
  have hf:ef p u=gD (aG p u) ((aG p u).length -1):=by unfold ef;simp_all
  have hc:=Ha (ef p u) (b0 (dM hm) hn) (fun x hx=>ht x (by
    grind[iH]))
  rw[hf]at hc ⊢
  have hz:=RY hpos
  exact bH Tryz.func62<|Kp 5 hw<|Kl 2 11 (ln aK<|aG p u)<|Kh 0 hz<|Kl 2 16 (ln aK<|aG p u)<|Kl 0 17 (BG (aG p u).length)<|Mx ((bW aK (oA:(aG p u).length -1<(aG p u).length)).trans<|congrArg some<|aT _)<|Kp 0 hc<|Kf 1<|bi<|bO [ab [iV (gD (aG p u)<|(aG p u).length -1).act,iV (gD (aG p u)<|(aG p u).length -1).item,iV (gD (aG p u)<|(aG p u).length -1).n,iV (gD (aG p u)<|(aG p u).length -1).kind,ax (gD (aG p u)<|(aG p u).length -1).label,aW<|List.map aQ (gD (aG p u)<|(aG p u).length -1).head,aW<|List.map aQ (gD (aG p u)<|(aG p u).length -1).words,aW<|List.map aK (gD (aG p u)<|(aG p u).length -1).kids],dT true]
theorem WM(p:PId)(u:TUnit)(h:By (cV p u) false)(hn:nU u≤2^20):kP 62 [eU u,aV p] (.tuple [eU bb,.bool false]):=by
  have hw:=JP p u h hn
  exact bH Tryz.func62<|Kp 5 hw<|Kf 7 (cC<|.cons (bZ (lc<|lc<|lc<|lc<|lc<|.cons bI<|.cons bI<|.cons bI .nil)<|by kernel_rfl)<|lc .nil:Le _ (bO [ab [iV 0,iV 0,iV 0,iV 0,ax [],af,af,af],dT false]))
theorem Q4(p:PId)(u:TUnit)(hn:nU u≤2^20)(ht:∀x,x∈bo u→x.head.length<2^30∧x.words.length<2^30):kP 62 [eU u,aV p] (.tuple [eU (ef p u),.bool (cV p u)]):=by
  cases h:cV p u with
  |true=>grind[WI]
  | false=>
    have:=WM p u h hn
    rwa[show bb=ef p u by unfold ef;simp_all]at this
theorem ifW(l:List PWord)(g:Nat)(q:PWord→Bool)(hp:∀k,k∈l→kP g [aQ k] (.bool (q k)))(hl:l.length<2^40):kP 291 [.ls (l.map aQ),.func (.func g) [] []] (iV (dB q l 0)):=by
  have rr0 b' (h:(dB q l 0)=b':=by first|exact mZ zd0 hr0 hj0 ‹_› |exact hj0):=h;exact bH Tryz.func291<|Kl 2 7 (ln aQ l)<|Mg 0<|vP aQ l [0,1,7,8] (fun a _=>([aW<|l.map aQ,bU (bY g) [] [],nV l.length,nV a],[])) (fun a=>dB q l (0:Nat)=dB q a (l.length-a.length)) sA (fun _ _ zd0 _ hr0 a hj0=>Kh 0 a<|Kf 0<|li<|rr0 (-1)) fun a _ zd0 _ b c d hr0 e _ f hj0=>Kt 0 e<|Kx 4 f<|Kp 0 (hp b<|by exact aR zd0 hr0)<|Mb (q b) (fun _=>Kf 1<|li<|rr0<|Int.ofNat a) fun _=>Kl 0 18 (dV a)<|Kf 0<|d<|by exact kJ zd0 hr0 hj0 (by omega)
theorem Z6(l:List PWord)(g:Nat)(q:PWord→Bool)(hp:∀k,k∈l→kP g [aQ k] (.bool (q k)))(hl:l.length<2^40):kP 263 [.ls (l.map aQ),.func (.func g) [] []] (.bool (l.any q)):=by
  have h:=ifW l g q hp hl
  have rr0 b' (h:(l.any q)=b':=by(rw[lK];simp only[aS,ak,bS,ru])):=h;exact bH Tryz.func263<|Kp 2 h<|Kf 1<|cb<|rr0<|ak<|ap (dB q l 0) 0
theorem Ce(w:PWord):kP 262 [aQ w] (.bool (oO w)):=by
  exact bH Tryz.func262<|Kv 4 (F4 ((Tryz.prog).underlying 100) w.act w.item w.at_ 0 0 0<|av [aZ 4 false 0 [ab [ax w.text,iV w.act,iV w.item,iV w.at_]]])<|Kf 0<|bi<|dT<|ak<|ah w.act 0&&(ah w.item 0&&ah w.at_ 0)
theorem R0(u:TUnit)(h1:u.head.length<2^40)(h2:u.words.length<2^40):kP 261 [eU u] (.bool (C9 u)):=by
  have c1:=Z6 u.head 262 oO (fun k _=>Ce k) h1
  have c2:=Z6 u.words 262 oO (fun k _=>Ce k) h2
  have rr0 b' (h:(C9 u)=b':=by(simp only[C9,fE,bu,bj,bT,aS,ak,bS, *];first|done|rfl)):=h;exact bH Tryz.func261<|Kv 5 (lY ((Tryz.prog).underlying 34) u.act u.item u.n 0 0 0<|av [aZ 8 false 0 [ab [iV u.act,iV u.item,iV u.n,iV u.kind,ax u.label,aW<|u.head.map aQ,aW<|u.words.map aQ,aW<|u.kids.map aK]]])<|Kb 0 (ah u.act 0&&(ah u.item 0&&ah u.n 0)) (fun a=>Kt 0 a<|Kt 0 a<|Kt 0 a<|Mp c1<|Mt a<|Ku 0 a<|Kn 0 (u.head.any oO) (fun a=>Kt 0 (cH a)<|Kt 0 (cH a)<|Kt 0 (cH a)<|Mp c2<|Mt (cH a)<|Ku 0 (cH a)<|Kf 0<|cb<|rr0<|ak<|u.words.any oO) fun a=>Mh (bR a)<|Mh (bR a)<|Mh (bR a)<|Mh (bR a)<|My (bR a)<|Ky 0<|rr0 false) fun a=>Mh a<|Mh a<|Mh a<|Mh a<|My a<|Ky 2<|rr0 false
theorem Xf(u:TUnit)(h:md u):kP 235 [eU u] (.bool (HE u)):=by
  have e1:=xr u h
  have e2:=Lc 261 C9 u (fun x hx=>by
      obtain⟨a,b,_⟩:=h.2 x hx
      grind[R0]) (by have h1:=bd u;have h3:=h.1;omega) (fun x hx=>by
      have h1:=bd x
      have h2:=dM hx
      have h3:=h.1
      omega)
  have rr0 b' (h:(HE u)=b':=by(simp only[HE,aS,ak,bS, *];first|done|rfl)):=h;exact bH Tryz.func235<|Kp 2 e1<|Kb 0 (ko u) (fun c=>Kt 0 c<|Mp e2<|MV c<|Kf 0<|cb<|rr0<|vN C9 u) fun c=>Mh c<|My c<|Ky 0<|rr0 false
theorem MN(p:PId)(u:TUnit)(hh:cV p u=false)(hn:nU u≤2^20):kP 171 [eU u,aV p] (.tuple [aV bT,iV (-1),.bool false]):=by
  have hw:=JP p u hh hn
  exact bH Tryz.func171<|Kp 6 hw<|Kf 8<|bi<|bO [ab [iV 0,iV 0,iV 0],iV (-1),dT false]
theorem MI(p:PId)(u:TUnit)(hh:cV p u=true)(hl:ap (Int.ofNat (aG p u).length) 2=true)(hn:nU u≤2^20):kP 171 [eU u,aV p] (.tuple [aV bT,iV (-1),.bool false]):=by
  have hw:=E8 p u hh hn
  exact bH Tryz.func171<|Kp 6 hw<|Kl 2 14 (ln aK<|aG p u)<|Kt 0 hl<|Kf 3<|bi<|bO [ab [iV 0,iV 0,iV 0],iV (-1),dT false]
theorem Pm(p:PId)(u:TUnit)(h:hJ p u=false)(hn:nU u≤2^20):kP 171 [eU u,aV p] (.tuple [aV bT,iV (-1),.bool false]):=by
  grind[MN,MI,hJ]
theorem Ph(p:PId)(u:TUnit)(h:hJ p u=true)(hn:nU u≤2^20):kP 171 [eU u,aV p] (.tuple [aV (se p u),iV (qY p u),.bool true]):=by
  have hl:ap (Int.ofNat (aG p u).length) 2=false:=by grind[hJ]
  have hl2:2≤(aG p u).length:=by have:=aE hl;grind
  have hh:cV p u=true:=by
    cases e:cV p u with
    |true=>rfl
    |false=>grind[QB]
  have hw:=E8 p u hh hn
  have hlen:=lP (p:=p) u
  have hm:IK p u∈bo u:=JR u _ (ge (by omega))
  have hkn:∀k,k∈(IK p u).kids→nU k≤2^20:=fun k hk=>b0 (dM (iH hm (LK hk))) hn
  have hkl:(IK p u).kids.length<2^40:=by have:=bd (IK p u);have:=dM hm;omega
  have hi:=ZA (IK p u).kids 233 p (cV p) (fun k hk=>by
    grind[cV,MS,MT]) hkl
  rw[Is h,It h]
  generalize hG:IK p u=y at *
  have hG2:gD (aG p u) ((aG p u).length -2)=y:=hG
  have rr0 b' (h:((bj y).a)=b':=by(rw[hG2];rfl)):=h;have rr1 b' (h:((bj y).i)=b':=by(rw[hG2];rfl)):=h;have rr2 b' (h:((bj y).n)=b':=by(rw[hG2];rfl)):=h;exact bH Tryz.func171<|Kp 6 hw<|Kl 2 14 (ln aK<|aG p u)<|Kh 0 hl<|Kl 2 19 (ln aK<|aG p u)<|Kl 0 20 (b8 (x:=Int.ofNat (aG p u).length -(2:Int)) (n:=(aG p u).length -2) e9)<|Mx ((bW aK (oA:(aG p u).length -2<(aG p u).length)).trans<|congrArg some<|aT _)<|Mg 5<|M0 (.ren [2,3,0,1] [] [4,8,24,25])<|M1 (.frz 2 [4,8,24,25]) (ce rt rt ti)<|Mp (bX.onArgs (.cons (cW (by(rw[hG2];done):(y.kids.map aK)=(List.map aK (gD (aG p u) ((aG p u).length -2)).kids)))<|lc .nil) hi:kP 232 [aW (List.map aK (gD (aG p u) ((aG p u).length -2)).kids),bU (bY 233) [] [AV.pptr [ab [iV p.a,iV p.i,iV p.n]] 0 0]] _)<|Kf 6 (cC<|.cons (bZ (.cons (li<|rr0 (gD (aG p u)<|(aG p u).length -2).act)<|.cons (li<|rr1 (gD (aG p u)<|(aG p u).length -2).item)<|.cons (li<|rr2 (gD (aG p u)<|(aG p u).length -2).n) .nil)<|by kernel_rfl)<|lc<|lc .nil:Le _ (bO [ab [iV (gD (aG p u) ((aG p u).length -2)).act,iV (gD (aG p u) ((aG p u).length -2)).item,iV (gD (aG p u) ((aG p u).length -2)).n],iV (dB (cV p) y.kids 0),dT true]))
theorem Pi(p:PId)(u:TUnit)(hn:nU u≤2^20):kP 171 [eU u,aV p] (.tuple [aV (se p u),iV (qY p u),.bool (hJ p u)]):=by
  grind[hJ,Ph,V5,Po,Pm]
theorem Y3(p:PId)(u:TUnit)(h:cV p u=false)(hn:nU u≤2^20):kP 217 [eU u,aV p] (.ls ((pA p u).map aV)):=by
  have hw:=JP p u h hn
  have e:pA p u=[]:=by unfold pA;rw[zP h];rfl
  rw[e]
  let q:=[aZ 8 false 0 [ab [iV u.act,iV u.item,iV u.n,iV u.kind,ax u.label,aW (u.head.map aQ),aW (u.words.map aQ),aW (u.kids.map aK)]],aZ 3 false 0 [ab [iV p.a,iV p.i,iV p.n]]];let q1:=[af,af,iV (IntKind.i64.wrap (0-2))];exact bH Tryz.func217<|Kp 5 hw<|Mg 4<|ZQ [5,6,7] (q1,q) True 0 ti fun _ _=>Kf 4 bI
theorem Y2(p:PId)(u:TUnit)(h:cV p u=true)(hn:nU u≤2^20):kP 217 [eU u,aV p] (.ls ((pA p u).map aV)):=by
  have hw:=E8 p u h hn
  have hlen:=lP (p:=p) u
  have hpos:0<(aG p u).length:=pI.2 (kR h)
  have hac:=DZ p u
  have rr0 b' (h:((pA p u).map aV)=b':=by first|rfl|(rw[SJ hx0 ‹_›];rfl)|(rw[SK hx0.2.1 oA ‹_›])):=h;exact bH Tryz.func217<|Kp 5 hw<|Kl 0 6 (fg ((aG p u).map aK) false<|aX iQ<|aG p u)<|Kl 1 12 (ln aK<|aG p u)<|Kl 0 13 (Le.wr (x:=Int.ofNat (aG p u).length -2) e9)<|K1 0 (.frz 0 [5,6,7]) ti<|Sy Int Nat Nat (List PId) (Int.ofNat (aG p u).length -2) [5,6,7] (fun a=>([af,aW<|(aG p u).map aK,iV a],[])) (fun a b c d=>([aM 0 b 0 c none,aW<|(aG p u).map aK,iV a],[aZ 3 true b<|d.map aV])) (fun a=>a=Int.ofNat (aG p u).length -(2:Int)) (fun a _ b c=>b=c.length∧c=oq p u (a+(1:Int)).toNat∧((-1):Int)≤a∧a+(2:Int)≤↑(aG p u).length∧c.length≤(aG p u).length) (fun a=>(a+1).toNat) (fun a _ _ _=>(a+1).toNat) (by rfl) (fun a hx0 _ b=>have hx0:=hx0;Kd 1 a 0 (fun _ _=>Kl 2 20 (A4 (x:=a) oA)<|Mx ((bW aK (gR:a.toNat<(aG p u).length)).trans<|congrArg some<|aT _)<|Kl 6 17 (Le.wr (x:=a-1) e9)<|Kf 0<|b (a-1) 0 1 [PId.mk (gD (aG p u) a.toNat).act (gD (aG p u) a.toNat).item (gD (aG p u) a.toNat).n] (by exact⟨rfl,N8 hx0 (by omega),by omega,by grind,by grind⟩) oA) fun _ _=>Kf 1 (Le.lsn<|rr0 []:Le _ (af))) fun a b c d hx0 _ e=>have hx0:=hx0;Kd 1 a 0 (fun _ _=>Kl 2 20 (A4 (x:=a) oA)<|Mx ((bW aK (oA:a.toNat<(aG p u).length)).trans<|congrArg some<|aT _)<|K1 2 .app (ce (aU b) (sA:c=(d.map aV).length) (by(refine aN (m:=2^21) ?_ ?_ ?_<;>omega):small (c+1) 24=true))<|M1 (.obj 0<|aZ 3 true (b+1)<|(d++[PId.mk (gD (aG p u) a.toNat).act (gD (aG p u) a.toNat).item (gD (aG p u) a.toNat).n]).map aV) (congrArg (aZ 3 true<|b+1)<|dQ (f:=aV) (l:=d) (ws:=[PId.mk (gD (aG p u) a.toNat).act (gD (aG p u) a.toNat).item (gD (aG p u) a.toNat).n]))<|Kl 2 17 (Le.wr (x:=a-1) e9)<|Kf 0<|e (a-1) (b+1) (c+1) (d++[PId.mk (gD (aG p u) a.toNat).act (gD (aG p u) a.toNat).item (gD (aG p u) a.toNat).n]) (by exact⟨by simp_all,HM hx0.2.1 hx0.2.2.2.1 (by omega),by omega,by omega,by(have z:=HM hx0.2.1 hx0.2.2.2.1 (by omega);grind)⟩) oA) fun _ _=>Mg 1<|M2 (.fsl 0 [] 4<|d.map aV) ti (ce (aU b) (tA aV d c (oA:(d).length=c))<|aX Jb d)<|Ml 4 (fg (d.map aV) false<|aX Jb d)<|Mf<|cW<|rr0<|d.map aV
theorem HL(p:PId)(u:TUnit)(hn:nU u≤2^20):kP 217 [eU u,aV p] (.ls ((pA p u).map aV)):=by
  grind[Y2,Y3]
theorem kH(u:TUnit)(s:PStep):kP 249 [eU u,az s] (.bool (bC s u)):=by
  have rr0 b' (h:(bC s u)=b':=by(simp only[bC,bw,aS,ak,bS, *];first|done|rfl)):=h;exact bH Tryz.func249<|Kb 8 (ah u.kind s.kind) (fun a=>Kt 0 a<|Kt 0 a<|Kt 0 a<|Kt 0 a<|Ku 0 a<|Kf 0<|cb<|rr0<|eJ u.label s.label) fun a=>Mh a<|Mh a<|Mh a<|Mh a<|My a<|Ky 0<|rr0 false
noncomputable abbrev jd(p:List PStep):AObj:=.row 1 false 0 [.ls (p.map az)]
noncomputable abbrev Ee(ep n:Nat):AObj:=.row 1 false 0 [.slice 2 ep 0 n none]
noncomputable abbrev Bq(ep:Nat)(l:List TUnit):AObj:=.row 8 true ep (l.map aK)
noncomputable abbrev NW:AObj:=.row 1 false 0 [.nils]
theorem Ct(s:PStep)(rs:List PStep)(u:TUnit)(h:By (bC s u) false):kD 248 [eU u,.ptr 0 0 0 0,.ptr 1 0 0 0] (av [jd (s::rs),NW]) (.tuple []) (av [jd (s::rs),NW]):=by
  have h':bC s u=false:=h
  exact eV Tryz.func248 fun a=>Kp 4 (kH u s)<|Mh h'<|M1 (.frz 2 []) (ce rt rt ti)<|Mf a
theorem JK(s:PStep)(rs:List PStep)(u:TUnit)(h:By (bC s u) true):kD 248 [eU u,.ptr 0 0 0 0,.ptr 1 0 0 0] (av [jd (s::rs),NW]) (.tuple []) (av [jd (s::rs),Ee 0 1,Bq 0 [u]]):=by
  have h':bC s u=true:=h
  exact Oj Tryz.func248<|Kp 4 (kH u s)<|Mt h'<|Mg 7<|M0 (.ren [0,1,3,2] [] [])<|M1 (.frz 3 []) (jQ rt rt rt ti)<|Mf<|et (aU<|bO []) (by(simp only[Bq,eD,yz,aT];rfl):(av [AObj.row 1 false 0 [AV.ls ((s::rs).map az)],AObj.row 1 false 0 [AV.slice 2 0 0 1 none],AObj.row 8 true 0 [AV.agg [iV u.act,iV u.item,iV u.n,iV u.kind,AV.str u.label,AV.ls (u.head.map aQ),AV.ls (u.words.map aQ),AV.ls (u.kids.map aK)]]])=(av [jd (s::rs),Ee 0 1,Bq 0 [u]]))
theorem Nl(s:PStep)(rs:List PStep)(u:TUnit)(ep n:Nat)(l:List TUnit)(h:By (bC s u) false):kD 248 [eU u,.ptr 0 0 0 0,.ptr 1 0 0 0] (av [jd (s::rs),Ee ep n,Bq ep l]) (.tuple []) (av [jd (s::rs),Ee ep n,Bq ep l]):=by
  have h':bC s u=false:=h
  exact eV Tryz.func248 fun a=>Kp 4 (kH u s)<|Mh h'<|M1 (.frz 3 []) (jQ (tR 8 true ep 3<|aX iQ l) rt rt ti)<|Mf a
theorem Nm(s:PStep)(rs:List PStep)(u:TUnit)(ep n:Nat)(l:List TUnit)(h:By (bC s u) true)(hn:n=l.length)(hl:l.length<2^30):kD 248 [eU u,.ptr 0 0 0 0,.ptr 1 0 0 0] (av [jd (s::rs),Ee ep n,Bq ep l]) (.tuple []) (av [jd (s::rs),Ee (ep+1) (n+1),Bq (ep+1) (l++[u])]):=by
  have h':bC s u=true:=h
  let q:=[iV 0,iV 0,iV 0,iV 0,ax [],af,af,af];let q1:=List.map aK l++[ab q];exact eV Tryz.func248 fun a=>Kp 4 (kH u s)<|Mt h'<|Mg 3<|Mw (.apx q1<|.rix<|.rst (ab q) ((l++[u]).map aK)<|.go 0<|.frz 3 [] .fin)<|WR rt (gS (tR 8 true ep 4<|aX iQ l) rt) (et (pw _ _:([ab q]:List AV)≠[]) rt) (et (ce (aU ep) (sA:n=(l.map aK).length) (by(refine aN (m:=2^31) ?_ ?_ ?_<;>(try simp only[lC,lN])<;>omega):small (n+([AV.agg [iV 0,iV 0,iV 0,iV 0,AV.str [],AV.nils,AV.nils,AV.nils]]).length) 120=true))<|aU q1) (et (aU<|ep+1) (oA:n<n+1)) rt (gS (tR 8 true (ep+1) 4 (by exact VH _ rfl:aq q1=0)) rt) (ce (aU<|ep+1) (PP (f:=aK) (l:=l) (z:=ab q) (oA:n=(l).length))<|PJ (f:=aK) (g:=Go.Ev.eU) aT (l:=l) (z:=ab q) (w:=u) (oA:n=(l).length)) (jQ (tR 8 true (ep+1) 3<|aX iQ<|l++[u]) rt rt ti) a
theorem Hq(s:PStep)(rs:List PStep):∀(u:TUnit),∀(ep n:Nat)(l:List TUnit),n=l.length→l.length+nU u<2^30→kC 247 [eU u,.func (.func 248) [] [.ptr 0 0 0 0,.ptr 1 0 0 0]] (av [jd (s::rs),Ee ep n,Bq ep l])
    (fun v h=>∃y:Nat×Nat×List TUnit,(y.2.1=y.2.2.length∧y.2.2=l++lQ s u)∧v=.tuple []∧h=av [jd (s::rs),Ee y.1 y.2.1,Bq y.1 y.2.2]):=by
  refine TUnit.ind fun u ih ep n l hn hl=>?_
  have hq:=iT u
  have hkl:=bd u
  have hp:=zQ s u
  rcases Bool.eq_false_or_eq_true (bC s u)with hc|hc
  · rw[hc]at hp
    exact pO Tryz.func247 fun a=>K1 2 (.frz 3 [1,2,6,7]) (jQ (tR 8 true ep 3<|aX iQ l) rt rt ti)<|Me (Nm s rs u ep n l hc hn oA)<|Kl 2 11 (ln aK u.kids)<|Mg 0<|U8 aK u.kids (ep+1) (n+1) (l++[u]) [1,10,11,12] (fun a _ b c d=>([bU (bY 248) [] [bz 0 0 0 0,bz 1 0 0 0],aW<|u.kids.map aK,nV u.kids.length,nV a],[aZ 1 false 0 [aW<|(s::rs).map az],aZ 1 false 0 [aM 2 b 0 c none],aZ 8 true b<|d.map aK])) (fun a _ b c=>b=c.length∧c++dx s a=l++[u]++dx s u.kids∧c.length+eW a<2^30) gR (fun _ _ b c d _ _ _ e _=>Kh 0 e<|Mf<|a (b,c,d)<|by grind[mB]) fun a _ b c d e f g i j k m _ o _=>have o:=(o).trans<|congrArg some<|aT g;have:=cq (J:=fun a b=>b.2.1=b.2.2.length∧b.2.2++dx s a=l++[u]++dx s u.kids∧b.2.2.length+eW a<2^30) (a:=(b,c,d)) k f;have e:=aR e k;have f:d.length+nU g<2^30:=(by grind[bf]);Kt 0 m<|Mx o<|K1 4 (.frz 3 [1,10,11,12,16,17]) (jQ (tR 8 true b 3<|aX iQ d) rt rt ti)<|Mq (ih g e b c d oA f) fun b _=>Kl 0 19 (dV a)<|Kf 0<|j b.1 b.2.1 b.2.2<|by grind[bf,gp,mq]
  · rw[hc]at hp
    exact pO Tryz.func247 fun a=>K1 2 (.frz 3 [1,2,6,7]) (jQ (tR 8 true ep 3<|aX iQ l) rt rt ti)<|Me (Nl s rs u ep n l hc)<|Kl 2 11 (ln aK u.kids)<|Mg 0<|U8 aK u.kids ep n l [1,10,11,12] (fun a _ b c d=>([bU (bY 248) [] [bz 0 0 0 0,bz 1 0 0 0],aW<|u.kids.map aK,nV u.kids.length,nV a],[aZ 1 false 0 [aW<|(s::rs).map az],aZ 1 false 0 [aM 2 b 0 c none],aZ 8 true b<|d.map aK])) (fun a _ b c=>b=c.length∧c++dx s a=l++dx s u.kids∧c.length+eW a<2^30) gR (fun _ _ b c d _ _ _ e _=>Kh 0 e<|Mf<|a (b,c,d)<|by grind[mB]) fun a _ b c d e f g i j k m _ o _=>have o:=(o).trans<|congrArg some<|aT g;have:=cq (J:=fun a b=>b.2.1=b.2.2.length∧b.2.2++dx s a=l++dx s u.kids∧b.2.2.length+eW a<2^30) (a:=(b,c,d)) k f;have e:=aR e k;have f:d.length+nU g<2^30:=(by grind[bf]);Kt 0 m<|Mx o<|K1 4 (.frz 3 [1,10,11,12,16,17]) (jQ (tR 8 true b 3<|aX iQ d) rt rt ti)<|Mq (ih g e b c d oA f) fun b _=>Kl 0 19 (dV a)<|Kf 0<|j b.1 b.2.1 b.2.2<|by grind[bf,gp,mq]
theorem Hz(s:PStep)(rs:List PStep):∀(u:TUnit),nU u≤2^20→By (lQ s u).isEmpty true→kD 247 [eU u,.func (.func 248) [] [.ptr 0 0 0 0,.ptr 1 0 0 0]] (av [jd (s::rs),NW]) (.tuple []) (av [jd (s::rs),NW]):=by
  refine TUnit.ind fun u ih hn he=>?_
  have hkl:=bd u
  have hp:=zQ s u
  have he':=List.isEmpty_iff.1 (show(lQ s u).isEmpty=true from he)
  rw[he']at hp
  rcases Bool.eq_false_or_eq_true (bC s u)with hc|hc
  · grind
  · rw[hc]at hp
    have hp:dx s u.kids=[]:=hp.symm
    exact eV Tryz.func247 fun a=>K1 2 (.frz 2 [1,2,6,7]) (ce rt rt ti)<|Me (Ct s rs u hc)<|Kl 2 11 (ln aK u.kids)<|Mg 0<|vP aK u.kids [1,10,11,12] (fun a _=>([bU (bY 248) [] [bz 0 0 0 0,bz 1 0 0 0],aW<|u.kids.map aK,nV u.kids.length,nV a],[aZ 1 false 0 [aW<|(s::rs).map az],aZ 1 false 0 [af]])) (fun a=>dx s a=[]) oA (fun _ _ _ _ _ b _=>Kh 0 b<|Mf a) fun a _ b _ c d e f g _ h i=>have h:=h.trans<|congrArg some<|aT c;have j:=aR b f;have b:=b0 (s6<|iq<|aR b f) hn;have f:(lQ s c).isEmpty=true:=(by rw[gp]at i;rw[(List.append_eq_nil_iff.1 i).1];rfl);Kt 0 g<|Mx h<|K1 4 (.frz 2 [1,10,11,12,16,17]) (ce rt rt ti)<|Me (ih c j b f)<|Kl 0 19 (dV a)<|Kf 0<|e<|by grind[gp]
theorem Rk(s:PStep)(rs:List PStep):∀(u:TUnit),nU u≤2^20→By (lQ s u).isEmpty false→kC 247 [eU u,.func (.func 248) [] [.ptr 0 0 0 0,.ptr 1 0 0 0]] (av [jd (s::rs),NW])
    (fun v h=>∃y:Nat×Nat×List TUnit,(y.2.1=y.2.2.length∧y.2.2=lQ s u)∧v=.tuple []∧h=av [jd (s::rs),Ee y.1 y.2.1,Bq y.1 y.2.2]):=by
  refine TUnit.ind fun u ih hn he=>?_
  have hq:=iT u
  have hkl:=bd u
  have hp:=zQ s u
  rcases Bool.eq_false_or_eq_true (bC s u)with hc|hc
  · rw[hc]at hp
    exact pO Tryz.func247 fun a=>K1 2 (.frz 2 [1,2,6,7]) (ce rt rt ti)<|Me (JK s rs u hc)<|Kl 2 11 (ln aK u.kids)<|Mg 0<|U8 aK u.kids (0:Nat) (1:Nat) ([u]:List TUnit) [1,10,11,12] (fun a _ b c d=>([bU (bY 248) [] [bz 0 0 0 0,bz 1 0 0 0],aW<|u.kids.map aK,nV u.kids.length,nV a],[aZ 1 false 0 [aW<|(s::rs).map az],aZ 1 false 0 [aM 2 b 0 c none],aZ 8 true b<|d.map aK])) (fun a _ b c=>b=c.length∧c++dx s a=[u]++dx s u.kids∧c.length+eW a<2^30) gR (fun _ _ b c d _ _ _ e _=>Kh 0 e<|Mf<|a (b,c,d)<|by grind[mB]) fun a _ b c d e f g i j k l _ m _=>have m:=(m).trans<|congrArg some<|aT g;have:=cq (J:=fun a b=>b.2.1=b.2.2.length∧b.2.2++dx s a=[u]++dx s u.kids∧b.2.2.length+eW a<2^30) (a:=(b,c,d)) k f;have:=aR e k;have e:d.length+nU g<2^30:=(by grind[bf]);Kt 0 l<|Mx m<|K1 4 (.frz 3 [1,10,11,12,16,17]) (jQ (tR 8 true b 3<|aX iQ d) rt rt ti)<|Mq (Hq s rs g b c d oA e) fun b _=>Kl 0 19 (dV a)<|Kf 0<|j b.1 b.2.1 b.2.2<|by grind[bf,gp,mq]
  · rw[hc]at hp
    have hne:dx s u.kids≠[]:=fun e=>by
      simp_all
    exact pO Tryz.func247 fun a=>K1 2 (.frz 2 [1,2,6,7]) (ce rt rt ti)<|Me (Ct s rs u hc)<|Kl 2 11 (ln aK u.kids)<|Mg 0<|kh Nat Nat (List TUnit) aK u.kids [1,10,11,12] (fun a _=>([bU (bY 248) [] [bz 0 0 0 0,bz 1 0 0 0],aW<|u.kids.map aK,nV u.kids.length,nV a],[aZ 1 false 0 [aW<|(s::rs).map az],aZ 1 false 0 [af]])) (fun a _ b c d=>([bU (bY 248) [] [bz 0 0 0 0,bz 1 0 0 0],aW<|u.kids.map aK,nV u.kids.length,nV a],[aZ 1 false 0 [aW<|(s::rs).map az],aZ 1 false 0 [aM 2 b 0 c none],aZ 8 true b<|d.map aK])) (fun a=>a≠[]∧dx s a=dx s u.kids) (fun a _ b c=>b=c.length∧c++dx s a=dx s u.kids∧c.length+eW a<2^30) (by(exact⟨KD rfl hne,rfl⟩)) (fun _ _ _ _ _ _ _=>Mw .abs (sA:False)) (fun a _ b c d f g i j k _ l _=>have l:=(l).trans<|congrArg some<|aT d;have:=cq (J:=fun a _=>a≠[]∧dx s a=dx s u.kids) (a:=()) j c;have c:=aR b j;have m:=b0 (s6<|iq<|aR b j) hn;have:nU d+eW f≤2^20:=(by have z:=oB b j;omega);Kt 0 k<|Mx l<|K1 4 (.frz 2 [1,10,11,12,16,17]) (ce rt rt ti)<|Ms (lQ s d).isEmpty (fun b=>Me (Hz s rs d m b)<|Kl 0 19 (dV a)<|Kf 0<|g<|by(have e:dx s f=dx s u.kids:=(by grind[gp]);exact⟨KD e hne,e⟩)) fun b=>Mq (ih d c m b) fun b _=>Kl 0 19 (dV a)<|Kf 0<|i b.1 b.2.1 b.2.2<|by grind[gp,mq]) (fun _ _ b c d _ _ _ f g=>Kh 0 f<|Mf<|a (b,c,d)<|by(refine⟨g.1,?_⟩;have:=g.2.1;rw[mB,ec]at this;simp_all)) fun a _ b c d f g i j _ k l m _ n _=>have n:=(n).trans<|congrArg some<|aT i;have:=cq (J:=fun a b=>b.2.1=b.2.2.length∧b.2.2++dx s a=dx s u.kids∧b.2.2.length+eW a<2^30) (a:=(b,c,d)) l g;have:=aR f l;have:=b0 (s6<|iq<|aR f l) hn;have:nU i+eW j≤2^20:=(by have z:=oB f l;omega);Kt 0 m<|Mx n<|K1 4 (.frz 3 [1,10,11,12,16,17]) (jQ (tR 8 true b 3<|aX iQ d) rt rt ti)<|Mq (Hq s rs i b c d oA<|by grind[bf]) fun b _=>Kl 0 19 (dV a)<|Kf 0<|k b.1 b.2.1 b.2.2<|by grind[gp,mq]
end Go.Proofs.YtaepacpodblomaaGreatDoor
