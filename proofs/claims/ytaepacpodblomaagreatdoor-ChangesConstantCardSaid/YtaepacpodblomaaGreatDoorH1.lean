/- Functions walked: what each of them answers, for The book is constant between change days and differs on each change day from the day before: part 1. Conditions: those that each theorem names. -/
import Derived.Test.YtaepacpodblomaaGreatDoorCmb
import Derived.Test.YtaepacpodblomaaGreatDoorLay
import Derived.Test.YtaepacpodblomaaGreatDoorLay2
namespace Go.Proofs.YtaepacpodblomaaGreatDoor
open Go Go.Ev
noncomputable abbrev ca:=@Le.bool
noncomputable abbrev aW:=@AV.ls
noncomputable abbrev ab:=@AV.agg
noncomputable abbrev ax:=@AV.str
noncomputable abbrev bj:=@AV.func
noncomputable abbrev bx:=@Fn.func
noncomputable abbrev fg:=@Le.ps
noncomputable abbrev jj:=@AV.ps
noncomputable abbrev bc:=@Le.refl
noncomputable abbrev dD:=@AV.bool
noncomputable abbrev cE:=@Le.tuple
noncomputable abbrev bO:=@AV.tuple
noncomputable abbrev ah:=@AV.nils
noncomputable abbrev aZ:=@AObj.row
noncomputable abbrev fk:=@So
noncomputable abbrev bU:=@AV.ptr
noncomputable abbrev aN:=@AV.slice
noncomputable abbrev bI:=@Le.nils
noncomputable abbrev aad:=@ARes.val
noncomputable def qJ(x:PWord):Bool:=aj (ao 100 (.ofNat x.text.length))
noncomputable def mA(ws:List PWord):Bool:=ws.all qJ&&aj (ao 300 (.ofNat ws.length))
theorem Gc(x:Int):kP 80 [iV x] (.bool false):=by
  have rr0 b' (h:(false)=b':=by simp[bY]):=h;exact wk Tryz.func80 (.go 4 .fin)<|ca<|rr0<|aj<|al x x
theorem pv(x y:Int):kP 66 [iV x,iV y] (iV (ja x y)):=by
  have rr0 b' (h:(ja x y)=b':=by simp[ja, *]):=h;exact bD Tryz.func66<|Kp 1 (Gc x)<|Kp 1 (Gc y)<|Kb 7 (ao x y) (fun _=>Kf 0<|li<|rr0 (-1)) fun _=>Kb 2 (ao y x) (fun _=>Kf 0<|li<|rr0 1) fun _=>Kf 0<|li<|rr0 0
theorem Fh(ws:List PWord)(hl:ws.length<2^60):kP 141 [.ls (ws.map aQ)] (.bool (mA ws)):=by
  have rr0 b' (h:(mA ws)=b':=by simp only[mA,qJ,aS,aj,bS, *]):=h;exact bD Tryz.func141<|Mg 1<|vZ aQ ws [0,3] (fun a _=>([aW<|ws.map aQ,nV a],[])) (fun a=>ws.all qJ=a.all qJ) (by rfl) (fun _ _ _ _ _ a _=>Kl 2 6 (ln aQ ws)<|Kh 0 a<|Kl 1 18 (ln aQ ws)<|Kf 1<|ca<|rr0<|aj<|ao 300<|Int.ofNat ws.length) fun a _ _ _ b c d _ e _ f _=>Kl 2 6 (ln aQ ws)<|Kt 0 e<|Kx 1 f<|Ka 3 100 (Int.ofNat<|List.length b.text) (fun _ _=>Ky 0<|rr0 false) fun _ _=>Kl 1 9 (dK a)<|Kf 0<|d<|by simp_all[qJ]
mutual
noncomputable def kp:TUnit→Bool
  |⟨_,_,_,_,label,h,w,kids⟩=>aj (ao 30 (.ofNat label.length))&&mA h&&mA w&&yi kids
noncomputable def yi:List TUnit→Bool
  |[]=>true
  |u::r=>kp u&&yi r
end
theorem BS:∀(l:List TUnit),yi l=l.all kp
  |[]=>by rw[yi];rfl
  |u::r=>by rw[yi,BS r];rfl
theorem BT(u:TUnit):kp u=(aj (ao 30 (.ofNat u.label.length))&&mA u.head&&mA u.words&&u.kids.all kp):=by
  obtain⟨a,b,c,d,e,f,g,h⟩:=u
  rw[kp,BS];rfl
theorem OC:∀(u:TUnit),jq u→kP 109 [eU u] (.bool (kp u)):=by
  refine TUnit.ind fun u ih hf=>?_
  obtain⟨f1,f2,f3,f4⟩:=lx.1 hf
  have rr0 b' (h:(kp u)=b':=by rw[BT];simp only[aS,aj,bS, *]):=h;exact bD Tryz.func109<|Ka 6 30 (Int.ofNat<|List.length u.label) (fun a _=>Mt a<|Mt a<|Mt a<|MV a<|Ky 3<|rr0 false) fun a _=>Kh 0 a<|Kh 0 a<|Mp (Fh u.head f1)<|Mh a<|Kw 0 a<|Kn 0 (mA u.head) (fun a=>Mt (cX a)<|Mt (cX a)<|Mt (cX a)<|MV (cX a)<|Ky 1<|rr0 false) fun a=>Kh 0 (b0 a)<|Kh 0 (b0 a)<|Mp (Fh u.words f2)<|Mh (b0 a)<|Kw 0 (b0 a)<|Mn (mA u.words) (fun _=>Ky 0<|rr0 false) fun _=>K1 0 (.frz 0 [1,3]) ti<|vZ aK u.kids [1,3] (fun a _=>([AV.pptr [ab [iV u.act,iV u.item,iV u.n,iV u.kind,ax u.label,aW<|u.head.map aQ,aW<|u.words.map aQ,aW<|u.kids.map aK]] 0 0,nV a],[])) (fun a=>u.kids.all kp=a.all kp) (by rfl) (fun _ _ _ _ _ a _=>Kl 3 23 (ln aK u.kids)<|Kh 0 a<|Ky 0<|rr0 true) fun a _ b _ c d e f g _ i _=>have i:=i.trans<|congrArg some<|aR c;Kl 3 23 (ln aK u.kids)<|Kt 0 g<|Kx 2 i<|Kp 0 (ih c (by exact bZ b f)<|by exact f4 _ (bZ b f))<|Kn 0 (kp c) (fun _=>Kf 0<|ca<|rr0 false) fun _=>Kl 1 26 (dK a)<|Kf 0<|e sA
mutual
noncomputable def mp:TUnit→Int→Int→Int
  |⟨_,_,_,_,_,_,_,kids⟩,deep,most=>match ao 20 deep with|true=>most+1|false=>mr kids deep most 1
noncomputable def mr:List TUnit→Int→Int→Int→Int
  |[],_,_,n=>n
  |k::r,deep,most,n=>match ao most n with|true=>n|false=>mr r deep most (n+mp k (deep+1) (most-n))
end
theorem Pk(u:TUnit)(deep most:Int):mp u deep most=match ao 20 deep with|true=>most+1|false=>mr u.kids deep most 1:=by
  obtain⟨a,b,c,d,e,f,g,h⟩:=u;rw[mp];rfl
mutual
theorem Ff:∀(u:TUnit)(deep most:Int),0≤most→1≤mp u deep most∧mp u deep most≤most+1
  | ⟨_,_,_,_,_,_,_,kids⟩,deep,most,h=>by
    rw[mp]
    split
    · omega
    · exact Fg kids deep most 1 (by omega) (by omega)
theorem Fg:∀(l:List TUnit)(deep most n:Int),1≤n→n≤most+1→1≤mr l deep most n∧mr l deep most n≤most+1
  |[],_,_,n,h1,h2=>by grind[mr]
  | k::r,deep,most,n,h1,h2=>by
    rw[mr]
    split
    · omega
    · rename_i h
      have:=aB h
      have:=Ff k (deep+1) (most-n) (by omega)
      exact Fg r deep most _ (by omega) (by omega)
end
theorem S5:∀(u:TUnit),jq u→∀(deep most:Int),0≤deep→deep≤21→0≤most→most≤2^20→kP 108 [eU u,iV deep,iV most] (iV (mp u deep most)):=by
  refine TUnit.ind fun u ih hf deep most d1 d2 m1 m2=>?_
  obtain⟨f1,f2,f3,f4⟩:=lx.1 hf
  have rr0 b' (h:(mp u deep most)=b':=by rw[Pk];simp only[mr,aS,aj,bS, *]):=h;exact bD Tryz.func108<|Ka 3 20 deep (fun _ _=>Kl 1 12 (Le.wr (x:=most+1) e9)<|Kf 0<|li<|rr0<|most+1) fun _ _=>K1 1 (.frz 0 [1,2,3,7,8]) ti<|JI aK u.kids (1:Int) [1,2,3,7,8] (fun a _ b=>([iV deep,iV most,AV.pptr [ab [iV u.act,iV u.item,iV u.n,iV u.kind,ax u.label,aW<|u.head.map aQ,aW<|u.words.map aQ,aW<|u.kids.map aK]] 0 0,iV b,nV a],[])) (fun a b=>(1:Int)≤b∧b≤most+(1:Int)∧mr u.kids deep most (1:Int)=mr a deep most b) oA (fun _ _ a _ _ _ b _=>Kl 3 16 (ln aK u.kids)<|Kh 1 b<|Mh b<|Mh b<|My b<|Kf 2<|li<|rr0 a) fun a _ b c _ d e f g i _ j _=>have j:=j.trans<|congrArg some<|aR d;Kl 3 16 (ln aK u.kids)<|Kt 1 i<|Kt 0 i<|Kt 0 i<|Ku 0 i<|Mn (ao most b) (fun i=>have:=aB i;Kx 3 j<|Kl 2 32 (Le.wr (x:=deep+1) e9)<|Kl 2 35 (Le.wr (x:=most-b) e9)<|Mp (ih d (by exact bZ c g) (by exact f4 _ (bZ c g)) (deep+1) (most-b) oA oA oA oA)<|have:=Ff d (deep+1) (most-b) oA;Kl 0 37 (Le.wr (x:=b+mp d (deep+1) (most-b)) e9)<|Kl 2 24 (dK a)<|Kf 0<|f (b+mp d (deep+1) (most-b))<|by(refine⟨by omega,by omega,?_⟩;first|rfl|grind[mr])) fun a=>have:=am a;Kf 1<|li<|rr0 b
noncomputable def G6(u:TUnit)(most:Int):Bool:=aj (ao most (mp u 0 most))&&kp u
theorem Uh(u:TUnit)(most:Int)(hf:jq u)(m1:0≤most)(m2:most≤2^20):kP 75 [eU u,iV most] (.bool (G6 u most)):=by
  have rr0 b' (h:(G6 u most)=b':=by simp only[G6,aS,aj,bS, *]):=h;exact bD Tryz.func75<|Kp 3 (S5 u hf 0 most oA oA m1 m2)<|Kn 2 (ao most<|mp u 0 most) (fun a=>Kt 0 (cX a)<|Mp (OC u hf)<|MV (cX a)<|Kf 0<|ca<|rr0<|kp u) fun a=>Mh (b0 a)<|My (b0 a)<|Ky 0<|rr0 false
noncomputable def xo(s:aI):Bool:=aj (ao 100 (.ofNat s.length))
noncomputable def xn(s:PStep):Bool:=aj (ao 100 (.ofNat s.label.length))
noncomputable def yU(x:PItem):Bool:=
  aj (ao 12 (.ofNat x.at_.length))&&aj (ao 12 (.ofNat x.to.length))&&aj (ao 300 (.ofNat x.old.length))&&aj (ao 300 (.ofNat x.new.length))&&aj (ao 100 (.ofNat x.label.length))&&aj (ao 100 (.ofNat x.for_.length))
  &&aj (ao 100 (.ofNat x.start.event.length))&&aj (ao 100 (.ofNat x.event.length))&&aj (ao 2 (.ofNat x.by_.length))&&G6 x.unit 30
noncomputable def Hd(y:PItem):Bool:=ao 0 (.ofNat y.by_.length)&&ao 0 (.ofNat (gD y.by_ 0).by_.length)
mutual
noncomputable def mO:PItem→Bool
  |⟨k,a,t,w,nn,u,o,n,lb,fo,st,ac,it,dy,ev,by_⟩=>yU ⟨k,a,t,w,nn,u,o,n,lb,fo,st,ac,it,dy,ev,by_⟩&&(o.all xo&&(n.all xo&&(a.all xn&&(t.all xn&&G8 by_))))
noncomputable def G8:List PItem→Bool
  |[]=>true
  |u::r=>(aj (Hd u)&&mO u)&&G8 r
end
noncomputable def HD(y:PItem):Bool:=aj (Hd y)&&mO y
theorem G7:∀(l:List PItem),G8 l=l.all HD
  |[]=>by rw[G8];rfl
  |u::r=>by rw[G8,G7 r];rfl
theorem EV(x:PItem):mO x=(yU x&&(x.old.all xo&&(x.new.all xo&&(x.at_.all xn&&(x.to.all xn&&x.by_.all HD))))):=by
  obtain⟨k,a,t,w,nn,u,o,n,lb,fo,st,ac,it,dy,ev,by_⟩:=x
  rw[mO,G7];rfl
theorem Ui:∀(x:PItem),nX x→kP 61 [eI x] (.bool (mO x)):=by
  refine PItem.ind fun x ih hf=>?_
  obtain⟨f1,f2,f3,f4,f5,f6,f7⟩:=qr.1 hf
  have hu:kP 75 [eU x.unit,iV 30] (.bool (G6 x.unit 30)):=Uh x.unit 30 f6 (by omega) (by omega)
  have rr0 b' (h:(mO x)=b':=by rw[EV,yU];simp only[HD,Hd,xo,xn,aS,aj,bS, *]):=h;exact bD Tryz.func61<|Kl 4 10 (ln az x.at_)<|Ka 1 12 (Int.ofNat x.at_.length) (fun a _=>Mt a<|Mt a<|Mt a<|MV a<|Ky 17<|rr0 false) fun a _=>Kh 0 a<|Kh 0 a<|Kl 0 15 (ln az x.to)<|Mh a<|Kw 0 a<|Ka 0 12 (Int.ofNat x.to.length) (fun a _=>Mt a<|Mt a<|Mt a<|MV a<|Ky 15<|rr0 false) fun a _=>Kh 0 a<|Kh 0 a<|Kl 0 21 (ln m0 x.old)<|Mh a<|Kw 0 a<|Ka 0 300 (Int.ofNat x.old.length) (fun a _=>Mt a<|Mt a<|Mt a<|MV a<|Ky 13<|rr0 false) fun a _=>Kh 0 a<|Kh 0 a<|Kl 0 27 (ln m0 x.new)<|Mh a<|Kw 0 a<|Ka 0 300 (Int.ofNat x.new.length) (fun a _=>Mt a<|Mt a<|Mt a<|MV a<|Ky 11<|rr0 false) fun a _=>Kh 0 a<|Kh 0 a<|Kh 0 a<|Kw 0 a<|Ka 0 100 (Int.ofNat<|List.length x.label) (fun a _=>Mt a<|Mt a<|Mt a<|MV a<|Ky 9<|rr0 false) fun a _=>Kh 0 a<|Kh 0 a<|Kh 0 a<|Kw 0 a<|Ka 0 100 (Int.ofNat<|List.length x.for_) (fun a _=>Mt a<|Mt a<|Mt a<|Mt a<|MV a<|Ky 7<|rr0 false) fun a _=>Kh 0 a<|Kh 0 a<|Kh 0 a<|Kh 0 a<|Kw 0 a<|Ka 0 100 (Int.ofNat<|List.length x.start.event) (fun a _=>Mt a<|Mt a<|Mt a<|MV a<|Ky 5<|rr0 false) fun a _=>Kh 0 a<|Kh 0 a<|Kh 0 a<|Kw 0 a<|Ka 0 100 (Int.ofNat<|List.length x.event) (fun a _=>Mt a<|Mt a<|Mt a<|MV a<|Ky 3<|rr0 false) fun a _=>Kh 0 a<|Kh 0 a<|Kl 0 58 (ln NT x.by_)<|Mh a<|Kw 0 a<|Ka 0 2 (Int.ofNat x.by_.length) (fun a _=>Mt a<|Mt a<|Mt a<|MV a<|Ky 1<|rr0 false) fun a _=>Kh 0 a<|Kh 0 a<|Mp hu<|Mh a<|Kw 0 a<|Mn (G6 x.unit 30) (fun _=>Ky 0<|rr0 false) fun _=>K1 0 (.frz 0 [1,3]) ti<|vZ m0 x.old [1,3] (fun a _=>([AV.pptr [ab [iV x.kind,aW<|x.at_.map az,aW<|x.to.map az,iV x.where_,iV x.nth_,iV x.unit.act,iV x.unit.item,iV x.unit.n,iV x.unit.kind,ax x.unit.label,aW<|x.unit.head.map aQ,aW<|x.unit.words.map aQ,aW<|x.unit.kids.map aK,aW<|x.old.map m0,aW<|x.new.map m0,ax x.label,ax x.for_,iV x.start.kind,iV x.start.day,ax x.start.event,iV x.act,iV x.item,iV x.day,ax x.event,aW<|x.by_.map NT]] 0 0,nV a],[])) (fun a=>x.old.all xo=a.all xo) (by rfl) (fun _ _ _ _ _ a _=>Kl 3 70 (ln m0 x.old)<|Kh 0 a<|Mg 0<|vZ m0 x.new [1,4] (fun a _=>([AV.pptr [ab [iV x.kind,aW<|x.at_.map az,aW<|x.to.map az,iV x.where_,iV x.nth_,iV x.unit.act,iV x.unit.item,iV x.unit.n,iV x.unit.kind,ax x.unit.label,aW<|x.unit.head.map aQ,aW<|x.unit.words.map aQ,aW<|x.unit.kids.map aK,aW<|x.old.map m0,aW<|x.new.map m0,ax x.label,ax x.for_,iV x.start.kind,iV x.start.day,ax x.start.event,iV x.act,iV x.item,iV x.day,ax x.event,aW<|x.by_.map NT]] 0 0,nV a],[])) (fun a=>x.new.all xo=a.all xo) (by rfl) (fun _ _ _ _ _ a _=>Kl 3 84 (ln m0 x.new)<|Kh 0 a<|Mg 0<|vZ az x.at_ [1,5] (fun a _=>([AV.pptr [ab [iV x.kind,aW<|x.at_.map az,aW<|x.to.map az,iV x.where_,iV x.nth_,iV x.unit.act,iV x.unit.item,iV x.unit.n,iV x.unit.kind,ax x.unit.label,aW<|x.unit.head.map aQ,aW<|x.unit.words.map aQ,aW<|x.unit.kids.map aK,aW<|x.old.map m0,aW<|x.new.map m0,ax x.label,ax x.for_,iV x.start.kind,iV x.start.day,ax x.start.event,iV x.act,iV x.item,iV x.day,ax x.event,aW<|x.by_.map NT]] 0 0,nV a],[])) (fun a=>x.at_.all xn=a.all xn) (by rfl) (fun _ _ _ _ _ a _=>Kl 3 98 (ln az x.at_)<|Kh 0 a<|Mg 0<|vZ az x.to [1,6] (fun a _=>([AV.pptr [ab [iV x.kind,aW<|x.at_.map az,aW<|x.to.map az,iV x.where_,iV x.nth_,iV x.unit.act,iV x.unit.item,iV x.unit.n,iV x.unit.kind,ax x.unit.label,aW<|x.unit.head.map aQ,aW<|x.unit.words.map aQ,aW<|x.unit.kids.map aK,aW<|x.old.map m0,aW<|x.new.map m0,ax x.label,ax x.for_,iV x.start.kind,iV x.start.day,ax x.start.event,iV x.act,iV x.item,iV x.day,ax x.event,aW<|x.by_.map NT]] 0 0,nV a],[])) (fun a=>x.to.all xn=a.all xn) (by rfl) (fun _ _ _ _ _ a _=>Kl 3 113 (ln az x.to)<|Kh 0 a<|Mg 0<|vZ NT x.by_ [1,7] (fun a _=>([AV.pptr [ab [iV x.kind,aW<|x.at_.map az,aW<|x.to.map az,iV x.where_,iV x.nth_,iV x.unit.act,iV x.unit.item,iV x.unit.n,iV x.unit.kind,ax x.unit.label,aW<|x.unit.head.map aQ,aW<|x.unit.words.map aQ,aW<|x.unit.kids.map aK,aW<|x.old.map m0,aW<|x.new.map m0,ax x.label,ax x.for_,iV x.start.kind,iV x.start.day,ax x.start.event,iV x.act,iV x.item,iV x.day,ax x.event,aW<|x.by_.map NT]] 0 0,nV a],[])) (fun a=>x.by_.all HD=a.all HD) (by rfl) (fun _ _ _ _ _ a _=>Kl 3 128 (ln NT x.by_)<|Kh 0 a<|Ky 0<|rr0 true) fun a _ b _ c d e f g _ i _=>have i:=i.trans<|congrArg some<|ee c;Kl 3 128 (ln NT x.by_)<|Kt 0 g<|Kx 2 i<|Kl 2 138 (ln NT c.by_)<|Ka 1 0 (Int.ofNat c.by_.length) (fun g _=>Kt 0 g<|Kt 0 g<|Kt 0 g<|Mx i<|Mt g<|Kt 0 g<|Kt 0 g<|Mx ((bJ NT (sA:0<(c.by_).length)).trans<|congrArg some<|ee _)<|Mt g<|Kt 0 g<|Kt 0 g<|Kl 0 150 (ln NT (gD c.by_ 0).by_)<|Mt g<|Ku 0 g<|Ka 0 0 (Int.ofNat (gD c.by_ 0).by_.length) (fun a _=>Mt a<|Mt a<|Mt a<|Mt a<|Mt a<|Mt a<|MV a<|Ky 1<|rr0 false) fun g _=>Kh 0 g<|Kh 0 g<|Kh 0 g<|Mx i<|Mh g<|Kh 0 g<|Mp (ih c (by exact bZ b f)<|by exact f7 _ (bZ b f))<|Mh g<|Kw 0 g<|Mn (mO c) (fun _=>Kf 0<|ca<|rr0 false) fun _=>Kl 1 131 (dK a)<|Kf 0<|e<|by simp_all[HD,Hd]) fun g _=>Mh g<|Mh g<|Mh g<|Mh g<|Mh g<|Mh g<|Mh g<|Mh g<|Mh g<|Mh g<|My g<|Kx 3 i<|Kp 0 (ih c (by exact bZ b f)<|by exact f7 _ (bZ b f))<|Kn 1 (mO c) (fun _=>Kf 0<|ca<|rr0 false) fun _=>Kl 1 131 (dK a)<|Kf 0<|e<|by simp_all[HD,Hd]) fun a _ _ _ b c d _ e _ f _=>Kl 3 113 (ln az x.to)<|Kt 0 e<|Kx 2 f<|Ka 3 100 (Int.ofNat<|List.length b.label) (fun _ _=>Ky 0<|rr0 false) fun _ _=>Kl 1 116 (dK a)<|Kf 0<|d<|by simp_all[xn]) fun a _ _ _ b c d _ e _ f _=>Kl 3 98 (ln az x.at_)<|Kt 0 e<|Kx 2 f<|Ka 3 100 (Int.ofNat<|List.length b.label) (fun _ _=>Ky 0<|rr0 false) fun _ _=>Kl 1 101 (dK a)<|Kf 0<|d<|by simp_all[xn]) fun a _ _ _ b c d _ e _ f _=>Kl 3 84 (ln m0 x.new)<|Kt 0 e<|Kx 2 f<|Ka 2 100 (Int.ofNat<|List.length b) (fun _ _=>Ky 0<|rr0 false) fun _ _=>Kl 1 87 (dK a)<|Kf 0<|d<|by simp_all[xo]) fun a _ _ _ b c d _ e _ f _=>Kl 3 70 (ln m0 x.old)<|Kt 0 e<|Kx 2 f<|Ka 2 100 (Int.ofNat<|List.length b) (fun _ _=>Ky 0<|rr0 false) fun _ _=>Kl 1 73 (dK a)<|Kf 0<|d<|by simp_all[xo]

theorem ifB(l:aI)(g:Nat)(p:UInt8→Bool)(hp:∀s,s∈l→kP g [.int .u8 (.ofNat s.toNat)] (.bool (p s)))(hl:l.length<2^40):kP 306 [.ls (l.map ng),.func (.func g) [] []] (iV (dA p l 0)):=by
  have rr0 b' (h:(dA p l 0)=b':=by first|exact mY zd0 hr0 hj0 ‹_› |exact hj0):=h;exact bD Tryz.func306<|Kl 2 7 (ln ng l)<|Mg 0<|vZ ng l [0,1,7,8] (fun a _=>([aW<|l.map ng,bj (bx g) [] [],nV<|List.length l,nV a],[])) (fun a=>dA p l (0:Nat)=dA p a (List.length l-a.length)) sA (fun _ _ zd0 _ hr0 a hj0=>Kh 0 a<|Kf 0<|li<|rr0 (-1)) fun a _ zd0 _ b c d hr0 e _ f hj0=>Kt 0 e<|Kx 4 f<|Kp 0 (hp b<|by exact bZ zd0 hr0)<|Mb (p b) (fun _=>Kf 1<|li<|rr0<|Int.ofNat a) fun _=>Kl 0 18 (dK a)<|Kf 0<|d<|by exact kY zd0 hr0 hj0 (by omega)
theorem cfB(l:aI)(g:Nat)(p:UInt8→Bool)(hp:∀s,s∈l→kP g [.int .u8 (.ofNat s.toNat)] (.bool (p s)))(hl:l.length<2^40):kP 294 [.ls (l.map ng),.func (.func g) [] []] (.bool (l.any p)):=by
  have h:=ifB l g p hp hl
  have rr0 b' (h:(List.any l p)=b':=by(rw[lq];simp only[aS,aj,bS,rG])):=h;exact bD Tryz.func294<|Kp 2 h<|Kf 1<|ca<|rr0<|aj<|ao (dA p l 0) 0
theorem OD(c:UInt8):kP 293 [.int .u8 (.ofNat c.toNat)] (.bool (aj (Qu 33 126 c))):=by
  have rr0 b' (h:(aj (Qu 33 126 c))=b':=by(simp only[Qu,aS,aj,bS,rG, *])):=h;exact bD Tryz.func293<|Kb 3 (ao (Int.ofNat c.toNat) 33) (fun a=>Mt a<|MV a<|Ky 0<|rr0 true) fun a=>Kh 0 a<|Kw 0 a<|Kf 0<|ca<|rr0<|ao 126<|Int.ofNat c.toNat
theorem SD(s:aI)(hs:s.length≤2^39):kP 266 [.str s] (.bool (rO s)):=by
  have h:=cfB s 293 _ (fun c _=>OD c) (by omega)
  have rr0 b' (h:(rO s)=b':=by first|(simp only[rO,aS,aj,bS, *];done)|(rw[rO,Ry,List.all_eq_not_any_not];simp only[DO,aS,aj,bS, *]at *)):=h;let q:=List.map ng s;exact bD Tryz.func266<|Kn 4 (dT s (ByteArray.mk #[]).data.toList) (fun a=>Kt 0 (cX a)<|Kt 0 (cX a)<|Ku 0 (cX a)<|Kn 0 (ao 24<|Int.ofNat<|List.length s) (fun a=>Kt 0 (cX a)<|Mv (UP (s:=s) (H:=av []) (oA:(s).length≤2^40))<|Mt (cX a)<|Kt 0 (cX a)<|Mp (bW.onArgs (.cons (fg q _<|aX VE s)<|lc .nil) h:kP 294 [jj q false,bj (bx 293) [] []] _)<|Mt (cX a)<|Ku 0 (cX a)<|Kf 0<|ca<|rr0<|aj<|List.any s fun a=>aj<|Qu 33 126 a) fun a=>Mh (b0 a)<|Mh (b0 a)<|Mh (b0 a)<|Mh (b0 a)<|My (b0 a)<|Ky 0<|rr0 false) fun a=>Mh (b0 a)<|Mh (b0 a)<|My (b0 a)<|Ky 2<|rr0 false
theorem ifS(l:List aI)(g:Nat)(p:aI→Bool)(hp:∀s,s∈l→kP g [.str s] (.bool (p s)))(hl:l.length<2^40):kP 292 [.ls (l.map m0),.func (.func g) [] []] (iV (dA p l 0)):=by
  have rr0 b' (h:(dA p l 0)=b':=by first|exact mY zd0 hr0 hj0 ‹_› |exact hj0):=h;exact bD Tryz.func292<|Kl 2 7 (ln m0 l)<|Mg 0<|vZ m0 l [0,1,7,8] (fun a _=>([aW<|l.map m0,bj (bx g) [] [],nV l.length,nV a],[])) (fun a=>dA p l (0:Nat)=dA p a (l.length-a.length)) sA (fun _ _ zd0 _ hr0 a hj0=>Kh 0 a<|Kf 0<|li<|rr0 (-1)) fun a _ zd0 _ b c d hr0 e _ f hj0=>Kt 0 e<|Kx 4 f<|Kp 0 (hp b<|by exact bZ zd0 hr0)<|Mb (p b) (fun _=>Kf 1<|li<|rr0<|Int.ofNat a) fun _=>Kl 0 18 (dK a)<|Kf 0<|d<|by exact kY zd0 hr0 hj0 (by omega)
theorem cfS(l:List aI)(g:Nat)(p:aI→Bool)(hp:∀s,s∈l→kP g [.str s] (.bool (p s)))(hl:l.length<2^40):kP 264 [.ls (l.map m0),.func (.func g) [] []] (.bool (l.any p)):=by
  have h:=ifS l g p hp hl
  have rr0 b' (h:(l.any p)=b':=by(rw[lq];simp only[aS,aj,bS,rG])):=h;exact bD Tryz.func264<|Kp 2 h<|Kf 1<|ca<|rr0<|aj<|ao (dA p l 0) 0
theorem MW(s:aI)(hs:s.length≤2^39):kP 265 [.str s] (.bool (aj (rO s))):=by
  exact bD Tryz.func265<|Kp 1 (SD s hs)<|Kf 1<|bc<|dD<|aj<|rO s
theorem KE(l:List aI)(hl:l.length<2^40)(hs:∀s,s∈l→s.length≤2^39):kP 236 [.ls (l.map m0)] (.bool (qq l)):=by
  have h:=cfS l 265 _ (fun s m=>MW s (hs s m)) hl
  have rr0 b' (h:(qq l)=b':=by first|(simp only[qq,aS,aj,bS, *];done)|(rw[qq,List.all_eq_not_any_not];simp only[aS,aj,bS, *])):=h;exact bD Tryz.func236<|Kl 2 4 (ln m0 l)<|Kn 1 (ao 256<|Int.ofNat l.length) (fun a=>Kt 0 (cX a)<|Mp h<|Mt (cX a)<|Ku 0 (cX a)<|Kf 0<|ca<|rr0<|aj<|l.any fun a=>aj<|rO a) fun a=>Mh (b0 a)<|Mh (b0 a)<|My (b0 a)<|Ky 0<|rr0 false
theorem Pt(r:Int):kP 268 [.int .i32 r] (.bool (ao r 48||ao 57 r)):=by
  have rr0 b' (h:(ao r 48||ao 57 r)=b':=by(simp only[aS,aj,bS, *])):=h;exact bD Tryz.func268<|Kb 3 (ao r 48) (fun a=>Mt a<|MV a<|Ky 0<|rr0 true) fun a=>Kh 0 a<|Kw 0 a<|Kf 0<|ca<|rr0<|ao 57 r
theorem Ti(r:Int):kP 238 [.int .i32 r] (.bool (ao r 65||ao 90 r)):=by
  have rr0 b' (h:(ao r 65||ao 90 r)=b':=by(simp only[aS,aj,bS, *])):=h;exact bD Tryz.func238<|Kb 3 (ao r 65) (fun a=>Mt a<|MV a<|Ky 0<|rr0 true) fun a=>Kh 0 a<|Kw 0 a<|Kf 0<|ca<|rr0<|ao 90 r
theorem H2(s:PStep):kP 199 [az s] (.bool (al s.kind 0&&dT s.label [])):=by
  have rr0 b' (h:(al s.kind 0&&dT s.label [])=b':=by(simp only[aS,aj,bS, *];first|done|rfl)):=h;exact bD Tryz.func199<|Kb 5 (al s.kind 0) (fun a=>Kt 0 a<|Kt 0 a<|Ku 0 a<|Kf 0<|ca<|rr0<|dT s.label (ByteArray.mk #[]).data.toList) fun a=>Mh a<|Mh a<|My a<|Ky 0<|rr0 false
theorem vK(n a b:Int):kP 195 [iV n,iV a,iV b] (.bool (aj (ao n a)&&aj (ao b n))):=by
  have rr0 b' (h:(aj (ao n a)&&aj (ao b n))=b':=by(simp only[aS,aj,bS, *])):=h;exact bD Tryz.func195<|Kn 4 (ao n a) (fun c=>Kt 0 (cX c)<|Kt 0 (cX c)<|Ku 0 (cX c)<|Kf 0<|ca<|rr0<|aj<|ao b n) fun c=>Mh (b0 c)<|Mh (b0 c)<|My (b0 c)<|Ky 0<|rr0 false
theorem QD(s:aI):kP 267 [.str s,.func (.func 268) [] []] (iV (bif Nat.beq (eg kj s) s.length then -1 else Int.ofNat (eg kj s))):=
  AX jU (Go.Proofs.enters_of Go.Proofs.Tryz.lidxf.f15 (by kernel_rfl) rfl) (Go.Proofs.enters_of Tryz.func268 (by kernel_rfl) rfl)
    (fun s w hp=>Go.Proofs.Any.strings_IndexFunc_grows Go.Proofs.Tryz.lidxf 268 #[] (Go.Proofs.enters_of Tryz.func268 (by kernel_rfl) rfl) _ s w hp) Pt (fun _=>rfl) (Hp (lo:=48) (hi:=57) (by omega)) s
theorem QE(s:aI)(h:By (Nat.beq (eg kj s) s.length) true):kP 267 [.str s,.func (.func 268) [] []] (iV (-1)):=by
  have:=QD s
  simp_all
theorem UY(s:aI)(h:By (Nat.beq (eg kj s) s.length) false):kP 267 [.str s,.func (.func 268) [] []] (nV (eg kj s)):=by
  have:=QD s
  grind
theorem Z3(s:aI):kP 239 [.str s,.func (.func 238) [] []] (.bool (aj (s.all Xe))):=
  uD jU (Go.Proofs.enters_of Go.Proofs.Tryz.lconf.f17 (by kernel_rfl) rfl) (Go.Proofs.enters_of Tryz.func238 (by kernel_rfl) rfl)
    (fun s w hp=>Go.Proofs.Any.strings_ContainsFunc_grows Go.Proofs.Tryz.lconf 238 #[] (Go.Proofs.enters_of Tryz.func238 (by kernel_rfl) rfl) _ s w hp) Ti (fun _=>rfl) (Hp (lo:=65) (hi:=90) (by omega)) s
theorem NQ(s:aI)(hs:s.length≤2^39):kP 237 [.str s] (.tuple [.str (s.take (eg kj s)),.str (s.drop (eg kj s))]):=by
  have hl:=Ki (p:=kj) (s:=s)
  have rr0 b' (h:(s.take (eg kj s))=b':=by(rw[pM h0];simp)):=h;have rr1 b' (h:(s.drop (eg kj s))=b':=by(rw[pM h0];simp)):=h;let q:=AHeap.mk 1000000 Tr.nil;exact bD Tryz.func237<|Ks 2 ((eg kj s).beq<|List.length s) (fun h0=>Mp (QE s h0)<|Kf 6<|cE<|.cons (Le.str<|rr0 s)<|.cons (Le.str<|rr1 []) .nil) fun h0=>Mp (UY s h0)<|Kv 5 (WQ (s:=s) (n:=eg kj s) (k:=IntKind.i64) (H:=q) oA)<|Kv 1 (V9 (s:=s) (l:=eg kj s) (k:=IntKind.i64) (H:=q) oA)<|Kf 1<|bc<|bO [ax<|s.take<|eg kj s,ax<|s.drop<|eg kj s]
theorem uV(s:aI)(hs:s.length≤2^39):kP 190 [.str s] (.bool (kK s)):=by
  have hd:(s.drop (eg kj s)).length≤2^39:=by grind
  have rr0 b' (h:(kK s)=b':=by first|(simp only[kK,aS,aj,bS,rG, *];done)|(simp only[kK,aS,aj,bS,rG, *];rfl)|(unfold kK;simp only[h0,h1,h2];rfl)):=h;exact bD Tryz.func190<|Kp 1 (NQ s hs)<|Kd 9 (Int.ofNat (s.take<|eg kj s).length) 1 (fun h0 _=>Kt 0 (cX h0)<|Kt 0 (cX h0)<|Ku 0 (cX h0)<|Kd 0 4 (Int.ofNat (s.take<|eg kj s).length) (fun h1 _=>Kt 0 (cX h1)<|M1 (.chr<|gD (s.take<|eg kj s) 0) (za (gR:0<(s.take (eg kj s)).length))<|Mt (cX h1)<|Ku 0 (cX h1)<|Kc 0 (Int.ofNat (gD (s.take<|eg kj s) 0).toNat) 48 (fun h2 _=>Kt 0 (cX h2)<|Kt 0 (cX h2)<|Ku 0 (cX h2)<|Kd 0 3 (Int.ofNat (s.drop<|eg kj s).length) (fun a _=>Kt 0 (cX a)<|Kt 0 (cX a)<|Mp (Z3<|s.drop<|eg kj s)<|Mt (cX a)<|Ku 0 (cX a)<|Kf 0<|ca<|rr0<|aj<|aj<|(s.drop<|eg kj s).all Xe) fun a _=>Mh (b0 a)<|Mh (b0 a)<|Mh (b0 a)<|My (b0 a)<|Ky 0<|rr0 false) fun h2 _=>Mh (b0 h2)<|Mh (b0 h2)<|My (b0 h2)<|Ky 2<|rr0 false) fun h1 _=>Mh (b0 h1)<|Mh (b0 h1)<|My (b0 h1)<|Ky 4<|rr0 false) fun h0 _=>Mh (b0 h0)<|Mh (b0 h0)<|My (b0 h0)<|Ky 6<|rr0 false
theorem u9(p:List PStep)(hl:p.length<2^40)(hs:∀s,s∈p→s.label.length≤2^39):kP 136 [.ls (p.map az)] (.bool (kn p)):=by
  have rr0 b' (h:(kn p)=b':=by first|(rw[kn,hj0,VV];rfl)|(rw[kn,EC zd0 hr0 hj0];simp only[nQ,tw,‹al (Int.ofNat zi0) 0=_›,cond_true,cond_false];simp only[DO,aS,aj,bS, *];first|done|rfl)):=h;exact bD Tryz.func136<|Kl 2 6 (ln az p)<|Mg 0<|vZ az p [0,5,6,7] (fun a _=>([aW<|p.map az,aW<|p.map az,nV p.length,nV a],[])) (fun a=>Ov p=H0 p a) (by(exact Ow)) (fun zi0 _ zd0 _ hr0 a hj0=>Kh 0 a<|Kl 1 34 (ln az p)<|Kf 1<|ca<|rr0<|aj<|ao 9<|Int.ofNat p.length) fun zi0 _ zd0 _ a b c hr0 d _ e hj0=>Kt 0 d<|Kx 0 e<|Kj 6 (Int.ofNat zi0) 0 (fun d _=>Kt 0 d<|Mp (H2 a)<|MV d<|Mb (al a.kind 0&&dT a.label []) (fun _=>Kl 0 32 (dK zi0)<|K1 0 (.frz 0 [0,5,6,7]) ti<|Mf<|c<|by(rw[EC zd0 hr0 hj0];simp only[nQ,tw,‹al (Int.ofNat zi0) 0=_›,cond_true,cond_false];simp only[DO,aS,aj,bS, *];first|done|rfl)) fun _=>Kd 3 0 a.kind (fun a _=>Mt (cX a)<|Mt (cX a)<|MV (cX a)<|Ky 3<|rr0 false) fun d _=>Kh 0 (b0 d)<|Kh 0 (b0 d)<|Kw 0 (b0 d)<|Ka 0 7 a.kind (fun a _=>Mt a<|Mt a<|Mt a<|MV a<|Ky 1<|rr0 false) fun d _=>Kh 0 d<|Kh 0 d<|Mp (uV a.label<|by exact hs _ (bZ zd0 hr0))<|Mh d<|Kw 0 d<|Mn (kK a.label) (fun _=>Kf 0<|ca<|rr0 false) fun _=>Kl 0 32 (dK zi0)<|K1 0 (.frz 0 [0,5,6,7]) ti<|Mf<|c<|by(rw[EC zd0 hr0 hj0];simp only[nQ,tw,‹al (Int.ofNat zi0) 0=_›,cond_true,cond_false];simp only[DO,aS,aj,bS, *];first|done|rfl)) fun d _=>Mh d<|My d<|Kd 4 0 a.kind (fun a _=>Mt (cX a)<|Mt (cX a)<|MV (cX a)<|Ky 3<|rr0 false) fun d _=>Kh 0 (b0 d)<|Kh 0 (b0 d)<|Kw 0 (b0 d)<|Ka 0 7 a.kind (fun a _=>Mt a<|Mt a<|Mt a<|MV a<|Ky 1<|rr0 false) fun d _=>Kh 0 d<|Kh 0 d<|Mp (uV a.label<|by exact hs _ (bZ zd0 hr0))<|Mh d<|Kw 0 d<|Mn (kK a.label) (fun _=>Kf 0<|ca<|rr0 false) fun _=>Kl 0 32 (dK zi0)<|K1 0 (.frz 0 [0,5,6,7]) ti<|Mf<|c<|by(rw[EC zd0 hr0 hj0];simp only[nQ,tw,‹al (Int.ofNat zi0) 0=_›,cond_true,cond_false];simp only[DO,aS,aj,bS, *];first|done|rfl)
theorem UK(l:List Int)(v:Int)(hl:l.length<2^40):kP 281 [.ls (l.map aw),iV v] (iV (dA (al v) l 0)):=by
  have rr0 b' (h:(dA (al v) l 0)=b':=by first|exact mY zd0 hr0 hj0 ‹_› |exact hj0):=h;exact bD Tryz.func281<|Kl 2 7 (ln aw l)<|Mg 0<|vZ aw l [0,1,7,8] (fun a _=>([aW<|l.map aw,iV v,nV l.length,nV a],[])) (fun a=>dA (al v) l (0:Nat)=dA (al v) a (l.length-a.length)) sA (fun _ _ zd0 _ hr0 a hj0=>Kh 0 a<|Kf 0<|li<|rr0 (-1)) fun a _ zd0 _ b c d hr0 e _ f hj0=>Kt 0 e<|Kx 4 f<|Kj 1 v b (fun _ _=>Kf 1<|li<|rr0<|Int.ofNat a) fun _ _=>Kl 0 18 (dK a)<|Kf 0<|d<|by exact kY zd0 hr0 hj0 (by omega)
theorem rh(l:List Int)(v:Int)(hl:l.length<2^40):kP 254 [.ls (l.map aw),iV v] (.bool (l.any (al v))):=by
  have h:=UK l v hl
  have rr0 b' (h:(l.any (al v))=b':=by(rw[lq];simp only[aS,aj,bS,rG])):=h;exact bD Tryz.func254<|Kp 2 h<|Kf 1<|ca<|rr0<|aj<|ao (dA (al v) l 0) 0
theorem QC(v:Int):kP 281 [.nils,iV v] (iV (-1)):=by
  let q:=[ah,iV v,iV 0,iV 0];exact bD Tryz.func281<|Mg 3<|Zv [0,1,7,8] (q,[]) True 0 ti fun _ _=>Kf 2<|bc<|iV (-1)
theorem Hi(v:Int):kP 254 [.nils,iV v] (.bool false):=by
  have h:=QC v
  exact bD Tryz.func254<|Kp 2 h<|Kf 1<|bc<|dD false
theorem kn0:kP 301 [iV 0] (.str (c8 0)):=by
  exact wk Tryz.func301 (.go 11 .fin)<|bc<|ax [98,111,111,107]
theorem kn1:kP 301 [iV 1] (.str (c8 1)):=by
  exact wk Tryz.func301 (.go 11 .fin)<|bc<|ax [112,97,114,116]
theorem kn2:kP 301 [iV 2] (.str (c8 2)):=by
  exact wk Tryz.func301 (.go 11 .fin)<|bc<|ax [115,101,99,116,105,111,110]
theorem kn3:kP 301 [iV 3] (.str (c8 3)):=by
  exact wk Tryz.func301 (.go 11 .fin)<|bc<|ax [112,97,114,97,103,114,97,112,104]
theorem kn4:kP 301 [iV 4] (.str (c8 4)):=by
  exact wk Tryz.func301 (.go 11 .fin)<|bc<|ax [116,97,98,108,101]
theorem kn5:kP 301 [iV 5] (.str (c8 5)):=by
  exact wk Tryz.func301 (.go 11 .fin)<|bc<|ax [114,111,119]
theorem kn6:kP 301 [iV 6] (.str (c8 6)):=by
  exact wk Tryz.func301 (.go 11 .fin)<|bc<|ax [99,101,108,108]
theorem kn7:kP 301 [iV 7] (.str (c8 7)):=by
  exact wk Tryz.func301 (.go 11 .fin)<|bc<|ax [110,111,116,101]
theorem knX(k:Int)(h:k<0∨7<k):kP 301 [iV k] (.str (c8 k)):=by
  rw[I7 h]
  have c:ao k 0=true∨(ao k 0=false∧ao k 8=false):=by
    grind[jy,iQ]
  rcases c with c|⟨c,d⟩
  · exact bD Tryz.func301<|Kt 3 c<|Mt c<|MV c<|Kf 1<|bc<|ax []
  · exact bD Tryz.func301<|Kh 3 c<|Kh 0 c<|Kw 0 c<|Mt (cX d)<|Kf 0<|bc<|ax []
theorem wO(k:Int):kP 301 [iV k] (.str (c8 k)):=by
  by_cases h:k<0∨7<k
  · grind[knX]
  · grind[kn0,kn1,kn2,kn3,kn4,kn5,kn6,kn7]
theorem ccX(p k:Int)(h:p<0∨7<p):kP 214 [iV p,iV k] (.bool (jV p k)):=by
  unfold jV
  rw[Ix h]
  have c:ao p 0=true∨(ao p 0=false∧ao p 8=false):=by
    grind[jy,iQ]
  rcases c with c|⟨c,d⟩
  · exact bD Tryz.func214<|Kh 3 (b0 c)<|Mh (b0 c)<|My (b0 c)<|Kf 2<|bc<|dD false
  · exact bD Tryz.func214<|Kt 3 (cX c)<|Kt 0 (cX c)<|Ku 0 (cX c)<|Kh 0 d<|Mh d<|Mh d<|Mh d<|Mh d<|My d<|Kf 0<|bc<|dD false
theorem cc0(k:Int):kP 214 [iV 0,iV k] (.bool (jV 0 k)):=by
  have h:=rh [1,2] k (by grind)
  let q:=[iV 1,iV 2];exact bD Tryz.func214<|Kp 11 (bW.onArgs (.cons (fg q _<|by rfl)<|lc .nil) h:kP 254 [jj q false,iV k] _)<|Kf 1<|bc<|dD<|[1,2].any<|al k
theorem cc1(k:Int):kP 214 [iV 1,iV k] (.bool (jV 1 k)):=by
  have h:=rh [2] k (by grind)
  let q:=[iV 2];exact bD Tryz.func214<|Kp 11 (bW.onArgs (.cons (fg q _<|by rfl)<|lc .nil) h:kP 254 [jj q false,iV k] _)<|Kf 1<|bc<|dD<|[2].any<|al k
theorem cc2(k:Int):kP 214 [iV 2,iV k] (.bool (jV 2 k)):=by
  have h:=rh [3,4,7] k (by grind)
  let q:=[iV 3,iV 4,iV 7];exact bD Tryz.func214<|Kp 11 (bW.onArgs (.cons (fg q _<|by rfl)<|lc .nil) h:kP 254 [jj q false,iV k] _)<|Kf 1<|bc<|dD<|[3,4,7].any<|al k
theorem cc3(k:Int):kP 214 [iV 3,iV k] (.bool (jV 3 k)):=by
  have h:=rh [3,4,7] k (by grind)
  let q:=[iV 3,iV 4,iV 7];exact bD Tryz.func214<|Kp 11 (bW.onArgs (.cons (fg q _<|by rfl)<|lc .nil) h:kP 254 [jj q false,iV k] _)<|Kf 1<|bc<|dD<|[3,4,7].any<|al k
theorem cc4(k:Int):kP 214 [iV 4,iV k] (.bool (jV 4 k)):=by
  have h:=rh [5] k (by grind)
  let q:=[iV 5];exact bD Tryz.func214<|Kp 11 (bW.onArgs (.cons (fg q _<|by rfl)<|lc .nil) h:kP 254 [jj q false,iV k] _)<|Kf 1<|bc<|dD<|[5].any<|al k
theorem cc5(k:Int):kP 214 [iV 5,iV k] (.bool (jV 5 k)):=by
  have h:=rh [6] k (by grind)
  let q:=[iV 6];exact bD Tryz.func214<|Kp 11 (bW.onArgs (.cons (fg q _<|by rfl)<|lc .nil) h:kP 254 [jj q false,iV k] _)<|Kf 1<|bc<|dD<|[6].any<|al k
theorem cc6(k:Int):kP 214 [iV 6,iV k] (.bool (jV 6 k)):=by
  have h:=Hi k
  exact bD Tryz.func214<|Kp 11 h<|Kf 1<|bc<|dD false
theorem cc7(k:Int):kP 214 [iV 7,iV k] (.bool (jV 7 k)):=by
  have h:=Hi k
  exact bD Tryz.func214<|Kp 11 h<|Kf 1<|bc<|dD false
theorem zf(p k:Int):kP 214 [iV p,iV k] (.bool (jV p k)):=by
  by_cases h:p<0∨7<p
  · grind[ccX]
  · grind[cc0,cc1,cc2,cc3,cc4,cc5,cc6,cc7]
theorem aO{n b m:Nat}(h1:n≤m)(h2:m≤2^40)(h3:m*b≤2^40):small n b=true:=by
  unfold small
  have h4:n*b≤m*b:=eC b h1
  grind[Nat.ble_eq_true_of_le]
noncomputable abbrev we(u:TUnit):AObj:=.row 8 false 0 [eU u]
def IV(p:PId)(u:TUnit)(x0:Nat×List TUnit×Unit):Prop:=(u.kids).drop x0.1=x0.2.1∧co p u.kids=co p x0.2.1
noncomputable def ym(p:PId)(u:TUnit)(x0:Nat×List TUnit×Unit):List AV×List AObj:=([AV.ptr 0 0 0 0,AV.ptr 1 0 0 0,AV.ls (u.kids.map aK),nV u.kids.length,nV x0.1],[AObj.row 8 false 0 [AV.agg [iV u.act,iV u.item,iV u.n,iV u.kind,AV.str u.label,AV.ls (u.head.map aQ),AV.ls (u.words.map aQ),AV.ls (u.kids.map aK)]],AObj.row 3 false 0 [AV.agg [iV p.a,iV p.i,iV p.n]]])
theorem FV(p:PId):∀(u:TUnit),nU u≤2^20→(cq p u=false→kP 76 [eU u,aV p] .nils)∧(cq p u=true→kP 76 [eU u,aV p] (.ps ((aG p u).map aK) false)):=by
  refine TUnit.ind fun u ih hn=>?_
  have ihn:∀k,k∈u.kids→By (cq p k) false→kP 76 [eU k,aV p] .nils:=fun k hk h=>(ih k hk (bT (tW (iy hk)) hn)).1 h
  have ihy:∀k,k∈u.kids→By (cq p k) true→kP 76 [eU k,aV p] (.ps ((aG p k).map aK) false):=fun k hk h=>(ih k hk (bT (tW (iy hk)) hn)).2 h
  have hkl:=bf u
  refine⟨fun hs=>?_,fun hs=>?_⟩
  · let q:=[ab [iV u.act,iV u.item,iV u.n,iV u.kind,ax u.label,aW (u.head.map aQ),aW (u.words.map aQ),aW (u.kids.map aK)]];let q3:=[iV p.a,iV p.i,iV p.n];exact bD Tryz.func76<|Kv 5 (lj ((Tryz.prog).underlying 34) u.act u.item u.n p.a p.i p.n<|av [aZ 8 false 0 q,aZ 3 false 0 [ab q3]])<|Mb (al u.act p.a&&(al u.item p.i&&al u.n p.n)) (fun _=>Kf 2<|fk (by exact absurd (hs.symm.trans (EZ ‹_›)) (by grind):(AV.nils)=(AV.ps q true))) fun _=>Kl 2 16 (ln aK u.kids)<|Mg 0<|Vk (0:Nat) u.kids () [2,3,15,16,17] (fun a _ _=>([bU 0 0 0 0,bU 1 0 0 0,aW<|u.kids.map aK,nV u.kids.length,nV a],[aZ 8 false 0 [ab [iV u.act,iV u.item,iV u.n,iV u.kind,ax u.label,aW<|u.head.map aQ,aW<|u.words.map aQ,aW<|u.kids.map aK]],aZ 3 false 0 [ab [iV p.a,iV p.i,iV p.n]]])) (fun a b _=>(u.kids).drop a=b∧co p u.kids=co p b) (fun _ a _=>a.length) (et rfl<|by rfl) fun a b c d e=>Mc b (fun a=>have b:=eP d.1 a;have:=gv (J:=fun a _=>co p u.kids=co p a) (a:=c) a d.2;Kh 0 b<|Kf 0<|bc ah) fun b f g=>let i:=List.map aK<|[u]++aG p b;have j:=fY d.1 g;have:=am j;have l:=(eO (enc:=aK) d.1 g).trans<|congrArg some<|aR b;have c:=cw (J:=fun a _=>co p u.kids=co p a) (a:=c) g d.2;have:nU b<nU u:=iy<|bZ d.1 g;have:(aG p b).length≤nU b:=mZ b;Kt 0 j<|Mx l<|Ks 4 (cq p b) (fun a=>Mp (ihy b (by exact bZ d.1 g) a)<|Mg 6<|M2 .apl (et (by simp_all[lX]:List.map aK (aG p b)≠[])<|gg (sz:=8) (f:=aK) (fun _=>by(rw[aR];rfl))<|aG p b) (et (by(refine aO (m:=2^21) ?_ ?_ ?_<;>(try simp only[lM,lC,lN])<;>(have:=mZ (p:=p) b;omega)):small (([AV.agg [iV u.act,iV u.item,iV u.n,iV u.kind,AV.str u.label,AV.ls (u.head.map aQ),AV.ls (u.words.map aQ),AV.ls (u.kids.map aK)]]).length+((aG p b).map aK).length) 120=true) rt)<|M1 (.obj 3<|aZ 8 true 0 i) (congrArg (aZ 8 true 0) (by(simp only[rH,eF,yb,aR,ee]<;>rfl):[AV.agg [iV u.act,iV u.item,iV u.n,iV u.kind,AV.str u.label,AV.ls (u.head.map aQ),AV.ls (u.words.map aQ),AV.ls (u.kids.map aK)]]++List.map aK (aG p b)=List.map aK ([u]++aG p b)))<|Mg 0<|M2 (.fsl 0 [] 4 i) ti (cn (aU 0) (tA aK ([u]++aG p b) (q++List.map aK (aG p b)).length (sA:([u]++aG p b).length=([AV.agg [iV u.act,iV u.item,iV u.n,iV u.kind,AV.str u.label,AV.ls (u.head.map aQ),AV.ls (u.words.map aQ),AV.ls (u.kids.map aK)]]++List.map aK (aG p b)).length))<|aX iW<|[u]++aG p b)<|Ml 4 (fg i false<|aX iW<|[u]++aG p b)<|Mf<|fk (by exact absurd (hs.symm.trans (Uj (by assumption) c (by omega))) (by grind):(AV.nils)=(AV.ls i))) fun c=>Mp (ihn b (by exact bZ d.1 g) c)<|Kl 4 30 (dK a)<|K1 0 (.frz 2 [2,3,15,16,17]) (cn rt rt ti)<|Mf<|e (a+1) f () (et (bV d.1 g)<|by grind[iH])<|dn g
  · have rr0:∀b',(h:((aG p u).map aK)=b':=by first|rfl|exact absurd (hs.symm.trans (GB (by assumption) hj0)) (by decide)|(rw[qS (by assumption),eF,aR];rfl)|(rw[J1 (by assumption) hj0 (by assumption)];rfl))→((aG p u).map aK)=b':=(fun _ h=>h);let q:=[ab [iV u.act,iV u.item,iV u.n,iV u.kind,ax u.label,aW (u.head.map aQ),aW (u.words.map aQ),aW (u.kids.map aK)]];let q3:=[iV p.a,iV p.i,iV p.n];exact bD (hv:=(aX iW (aG p u))) Tryz.func76 (Kv 5 (EB (d:=(Tryz.prog).underlying 34) (n:=3) (l:=(0,1)::(1,1)::(2,1)::[]) (xs:=[iV u.act,iV u.item,iV u.n]) (ys:=q3) (H:=av [aZ 8 false 0 q,aZ 3 false 0 [ab q3]]) rfl (mP (e:=al u.act p.a) rfl rfl rfl (mP (e:=al u.item p.i) rfl rfl rfl (Ac (e:=al u.n p.n) rfl rfl rfl rfl)))) (Mb (al u.act p.a&&(al u.item p.i&&al u.n p.n)) (fun h0=>Kf 2 ((Sn (rr0 q)):Le _ (jj q true))) (fun h0=>Kl 2 16 (Le.len (f:=aK) (l:=u.kids)) (Mg 0 (ML (Nat×List TUnit×Unit) [2,3,15,16,17] (ym p u) (IV p u) (fun x=>x.2.1.length) (0,u.kids,()) (aU ((ym p u) (0,u.kids,()))) (et (rfl:List.drop 0 (u.kids)=u.kids) (by rfl:(co p u.kids=co p u.kids))) (fun x0 hx0 nx0=>Mc x0.2.1 (fun hr0=>have lt0:=eP hx0.1 hr0;have hj0:=gv (J:=fun r x=>co p u.kids=co p r) (a:=x0.2.2) hr0 hx0.2;(Kh 0 lt0 (Kf 0 (fk (by exact absurd (hs.symm.trans (GB (by assumption) hj0)) (by grind):(AV.ps ((aG p u).map aK) false)=(AV.nils)))))) (fun w0 r0 hr0=>let q2:=List.map aK ([u]++aG p w0);have lt0:=fY hx0.1 hr0;have glt0:=am lt0;have nt0:=(eO (enc:=aK) hx0.1 hr0).trans (congrArg some (aR w0));have hj0:=cw (J:=fun r x=>co p u.kids=co p r) (a:=x0.2.2) hr0 hx0.2;have q0:nU w0<nU u:=iy (bZ hx0.1 hr0);have q1:(aG p w0).length≤nU w0:=mZ w0;(Kt 0 lt0 (Mx nt0 (Ks 4 (cq p w0) (fun h2=>Mp (ihy w0 (by exact bZ hx0.1 hr0) h2) (Mg 6 (M2 .apl (et (by simp_all[lX]:List.map aK (aG p w0)≠[]) (gg (sz:=8) (f:=aK) (fun _=>by(rw[aR];rfl)) (aG p w0))) (et (by(refine aO (m:=2^21) ?_ ?_ ?_<;>(try simp only[lM,lC,lN])<;>(have:=mZ (p:=p) w0;omega)):small (([AV.agg [iV u.act,iV u.item,iV u.n,iV u.kind,AV.str u.label,AV.ls (u.head.map aQ),AV.ls (u.words.map aQ),AV.ls (u.kids.map aK)]]).length+((aG p w0).map aK).length) 120=true) rt) (M1 (.obj 3 (aZ 8 true 0 q2)) (congrArg (aZ 8 true 0) (by(simp only[rH,eF,yb,aR,ee]<;>rfl):[AV.agg [iV u.act,iV u.item,iV u.n,iV u.kind,AV.str u.label,AV.ls (u.head.map aQ),AV.ls (u.words.map aQ),AV.ls (u.kids.map aK)]]++List.map aK (aG p w0)=List.map aK ([u]++aG p w0))) (Mg 0 (M2 (.fsl 0 [] 4 q2) ti (cn (aU (0)) (KQ (f:=aK) (l:=[u]++aG p w0) (n:=(q++List.map aK (aG p w0)).length) (by simp_all:([u]++aG p w0).length=([AV.agg [iV u.act,iV u.item,iV u.n,iV u.kind,AV.str u.label,AV.ls (u.head.map aQ),AV.ls (u.words.map aQ),AV.ls (u.kids.map aK)]]++List.map aK (aG p w0)).length)) (aX iW ([u]++aG p w0))) (Mf ((Sn (rr0 q2)):Le _ (jj q2 false))))))))) (fun h2=>Mp (ihn w0 (by exact bZ hx0.1 hr0) h2) (Kl 4 30 (Le.wr (x:=Int.ofNat x0.1+1) e9) (K1 0 (.frz 2 [2,3,15,16,17]) (cn rt rt ti) (Mf (nx0 (x0.1+1,r0,()) (et (bV hx0.1 hr0) (by grind[iH]:(co p u.kids=co p r0))) (dn hr0))))))))))))))))
theorem J2(p:PId)(u:TUnit)(h:By (cq p u) false)(hn:nU u≤2^20):kP 76 [eU u,aV p] .nils:=(FV p u hn).1 h
theorem FK(p:PId)(u:TUnit)(h:By (cq p u) true)(hn:nU u≤2^20):kP 76 [eU u,aV p] (.ps ((aG p u).map aK) false):=(FV p u hn).2 h
theorem RG:kP 110 [.nils] .nils:=by
  exact wk Tryz.func110 (.go 4 .fin)<|bc ah
theorem RF:kP 110 [.ps [] false] (.ps [] true):=by
  exact wk Tryz.func110 (.go 7 .fin)<|bc<|jj [] true
theorem RH(w:PWord)(r:List PWord)(hl:r.length<2^30):kP 110 [.ls ((w::r).map aQ)] (.ls ((w::r).map aQ)):=by
  let q:=List.map aQ (w::r);exact bD Tryz.func110<|Mg 1<|Mz 3 (fun(a:((w::r).map aQ:List AV)=[])=>Mw .abs<|pf _ _ a)<|Mg 3<|M2 .apl (et (sA:List.map aQ (w::r)≠[])<|fM 4 aQ (w::r) fun _=>rfl) (by(refine aO (m:=2^31) ?_ ?_ ?_<;>first|omega|grind):small ((w::r).map aQ).length 40=true)<|Mg 0<|M2 (.fsl 0 [] 2 q) ti (cn (aU 0) (tA aQ (w::r) q.length (sA:(w::r).length=((w::r).map aQ).length))<|aX iD<|w::r)<|Ml 2 (fg q false<|aX iD<|w::r)<|Mf<|bc<|aW q
theorem NJ(p:PId)(u:TUnit)(h:By (cq p u) false)(hn:nU u≤2^20):kP 233 [eU u,.pptr [aV p] 0 0] (.bool false):=by
  have h':cq p u=false:=h
  exact bD Tryz.func233<|Kp 3 (J2 p u h hn)<|Kf 1<|bc<|dD false
theorem NW(p:PId)(u:TUnit)(h:By (cq p u) true)(hn:nU u≤2^20):kP 233 [eU u,.pptr [aV p] 0 0] (.bool true):=by
  have h':cq p u=true:=h
  exact bD Tryz.func233<|Kp 3 (FK p u h hn)<|Kf 1<|bc<|dD true
theorem aaz(l:List TUnit)(g:Nat)(q:TUnit→Bool)(hp:∀k,k∈l→kP g [eU k] (.bool (q k)))(hl:l.length<2^40):kP 232 [.ls (l.map aK),.func (.func g) [] []] (iV (dA q l 0)):=by
  have rr0 b' (h:(dA q l 0)=b':=by first|exact mY zd0 hr0 hj0 ‹_› |exact hj0):=h;exact bD Tryz.func232<|Kl 2 7 (ln aK l)<|Mg 0<|vZ aK l [0,1,7,8] (fun a _=>([aW<|l.map aK,bj (bx g) [] [],nV l.length,nV a],[])) (fun a=>dA q l (0:Nat)=dA q a (l.length-a.length)) sA (fun _ _ zd0 _ hr0 a hj0=>Kh 0 a<|Kf 0<|li<|rr0 (-1)) fun a _ zd0 _ b c d hr0 e _ f hj0=>have f:=f.trans<|congrArg some<|aR b;Kt 0 e<|Kx 4 f<|Kp 0 (hp b<|by exact bZ zd0 hr0)<|Mb (q b) (fun _=>Kf 1<|li<|rr0<|Int.ofNat a) fun _=>Kl 0 18 (dK a)<|Kf 0<|d<|by exact kY zd0 hr0 hj0 (by omega)
theorem ZS(l:List TUnit)(g:Nat)(p:PId)(q:TUnit→Bool)(hp:∀k,k∈l→kP g [eU k,.pptr [aV p] 0 0] (.bool (q k)))(hl:l.length<2^40):kP 232 [.ls (l.map aK),.func (.func g) [] [.pptr [aV p] 0 0]] (iV (dA q l 0)):=by
  have rr0 b' (h:(dA q l 0)=b':=by first|exact mY zd0 hr0 hj0 ‹_› |exact hj0):=h;exact bD Tryz.func232<|Kl 2 7 (ln aK l)<|Mg 0<|vZ aK l [0,1,7,8] (fun a _=>([aW<|l.map aK,bj (bx g) [] [AV.pptr [ab [iV p.a,iV p.i,iV p.n]] 0 0],nV l.length,nV a],[])) (fun a=>dA q l (0:Nat)=dA q a (l.length-a.length)) sA (fun _ _ zd0 _ hr0 a hj0=>Kh 0 a<|Kf 0<|li<|rr0 (-1)) fun a _ zd0 _ b c d hr0 e _ f hj0=>have f:=f.trans<|congrArg some<|aR b;Kt 0 e<|Kx 4 f<|Kp 0 (hp b<|by exact bZ zd0 hr0)<|Mb (q b) (fun _=>Kf 1<|li<|rr0<|Int.ofNat a) fun _=>Kl 0 18 (dK a)<|Kf 0<|d<|by exact kY zd0 hr0 hj0 (by omega)
theorem Rg{D a:Nat}{w:TUnit}{r:List TUnit}{u:TUnit}(h:D=Nat.max a (ki (w::r))∧a≤2^20)(q0:nU w<nU u)(q1:m5 w<nU w)(hn:nU u≤2^20):D=Nat.max (Nat.max a (1+m5 w)) (ki r)∧Nat.max a (1+m5 w)≤2^20:=by
  grind[ki]
theorem UB{D a:Nat}(h:D=Nat.max a (ki [])∧a≤2^20):D=a:=by
  simp_all[C3]
theorem Hc:∀(u:TUnit),nU u≤2^20→kP 218 [eU u] (nV (m5 u)):=by
  refine TUnit.ind fun u ih hn=>?_
  have hkl:=bf u
  have ihk:∀k,k∈u.kids→kP 218 [eU k] (nV (m5 k)):=fun k hk=>ih k hk (bT (tW (iy hk)) hn)
  have rr0 b' (h:(Int.ofNat (m5 u))=b':=by(rw[Lt,UB hj0])):=h;exact bD Tryz.func218<|Kl 5 8 (ln aK u.kids)<|Mg 0<|JI aK u.kids (0:Nat) [3,7,8,9] (fun a _ b=>([nV b,aW<|u.kids.map aK,nV u.kids.length,nV a],[aZ 8 false 0 [ab [iV u.act,iV u.item,iV u.n,iV u.kind,ax u.label,aW<|u.head.map aQ,aW<|u.words.map aQ,aW<|u.kids.map aK]]])) (fun a b=>ki u.kids=b.max (ki a)∧b≤2^20) sA (fun _ _ a _ _ _ b hj0=>Kh 0 b<|Kf 1<|li<|rr0<|Int.ofNat a) fun a _ b c d e f g i j _ l _=>have l:=(l).trans<|congrArg some<|aR e;have hj0:=cw (J:=fun a b=>ki u.kids=b.max (ki a)∧b≤2^20) (a:=b) i d;have d:=iy<|bZ c i;have m:=Ew e;Kt 0 j<|Mx l<|Kp 4 (ihk e<|by exact bZ c i)<|Kl 0 16 (b8 (x:=(1:Int)+Int.ofNat (m5 e)) (n:=(1:Nat)+m5 e) e9)<|Kl 0 17 (pc (k:=IntKind.i64)<|Wy b<|1+m5 e)<|Kl 1 18 (jC a)<|K1 0 (.frz 1 [3,7,8,9]) (et rt ti)<|Mf<|g (b.max<|1+m5 e)<|by exact Rg hj0 d m hn
theorem Ln(g:Nat)(q:TUnit→Bool):∀(u:TUnit),(∀x,x∈bp u→kP g [eU x] (.bool (q x)))→u.kids.length<2^40→(∀x,x∈bp u→x.kids.length<2^40)→kP 219 [eU u,.func (.func g) [] []] (.bool (wX q u)):=by
  refine TUnit.ind fun u ih hp hl hk=>?_
  have ihk:∀k,k∈u.kids→kP 219 [eU k,.func (.func g) [] []] (.bool (wX q k)):=fun k hm=>ih k hm (fun x hx=>hp x (bA hm hx)) (hk k (Lk hm)) (fun x hx=>hk x (bA hm hx))
  have hs:=hp u (dq u)
  have rr0 b' (h:(wX q u)=b':=by first|(rw[yw];simp only[aS,aj,bS, *];done)|(rw[yw,hj0,Oj])|(rw[yw,hj0,BX];simp only[aS,aj,bS, *];done)):=h;exact bD Tryz.func219<|Kp 3 hs<|Kn 0 (q u) (fun _=>Ky 0<|rr0 false) fun _=>Kl 2 13 (ln aK u.kids)<|K1 0 (.frz 0 [1,12,13,14]) ti<|vZ aK u.kids [1,12,13,14] (fun a _=>([bj (bx g) [] [],aW<|u.kids.map aK,nV u.kids.length,nV a],[])) (fun a=>(q u&&(dr u.kids).all q)=(dr a).all q) (by(simp only[aS,aj,bS, *];done)) (fun _ _ _ _ _ a hj0=>Kh 0 a<|Ky 0<|rr0 true) fun a _ b _ c d e f i _ j hj0=>have j:=j.trans<|congrArg some<|aR c;Kt 0 i<|Mx j<|Kp 4 (ihk c<|by exact bZ b f)<|Kn 0 (wX q c) (fun _=>Kf 0<|ca<|rr0 false) fun _=>Kl 0 22 (dK a)<|K1 0 (.frz 0 [1,12,13,14]) ti<|Mf<|e<|by simp_all[BX]
theorem N4(u:TUnit)(n:Nat)(hn:n<2^40):kD 220 [eU u,.ptr 0 0 0 0] (av [.row 1 false 0 [nV n]]) (.bool true) (av [.row 1 false 0 [nV (n+1)]]):=by
  exact ej Tryz.func220 fun a=>Kl 3 5 (jC n)<|K1 1 (.frz 1 [3]) (et rt ti)<|Mf a
theorem HQ:∀(u:TUnit),∀(n:Nat),n+nU u<2^40→kD 219 [eU u,.func (.func 220) [] [.ptr 0 0 0 0]] (av [.row 1 false 0 [nV n]]) (.bool true) (av [.row 1 false 0 [nV (n+nU u)]]):=by
  refine TUnit.ind fun u ih n hn=>?_
  have hq:=jZ u
  have hl:=bf u
  exact Oi Tryz.func219<|K1 3 (.frz 1 [1,2,7,8]) (et rt ti)<|Me (N4 u n oA)<|Kl 4 13 (ln aK u.kids)<|Mg 0<|JI aK u.kids (n+1) [1,12,13,14] (fun a _ b=>([bj (bx 220) [] [bU 0 0 0 0],aW<|u.kids.map aK,nV u.kids.length,nV a],[aZ 1 false 0 [nV b]])) (fun a b=>n+nU u=b+eY a∧b+eY a<2^40) oA (fun _ _ a _ _ _ b _=>Kh 0 b<|Kf 0<|et (aU<|dD true) (by simp_all[mW]:(av [AObj.row 1 false 0 [nV a]])=(av [AObj.row 1 false 0 [nV (n+nU u)]]))) fun a _ b c _ d e f g h _ i _=>have i:=i.trans<|congrArg some<|aR d;have c:=bZ c g;have g:b+nU d<2^40:=(by grind[bh]);Kt 0 h<|Mx i<|K1 4 (.frz 1 [1,12,13,14,18,19]) (et rt ti)<|Me (ih d c b g)<|Kl 2 22 (jC a)<|Kf 0<|f (b+nU d)<|by grind[bh]
theorem Eb(u:TUnit)(hn:nU u<2^39):kP 156 [eU u] (nV (nU u)):=by
  have rr0 b' (h:(Int.ofNat (nU u))=b':=by(rw[fw])):=h;exact bD Tryz.func156<|Mg 5<|M0 (.ren [1,0] [] [3,4,5])<|M1 (.frz 1 [3,4,5]) (et rt ti)<|Me (HQ u 0 oA)<|Kf 1<|li<|rr0<|Int.ofNat<|0+nU u
noncomputable abbrev rF(ep n:Nat):AObj:=.row 1 false 0 [.slice 1 ep 0 n none]
noncomputable abbrev M9(ep:Nat)(l:List PId):AObj:=.row 3 true ep (l.map aV)
theorem WL(u:TUnit):kD 221 [eU u,.ptr 0 0 0 0] (av [.row 1 false 0 [.nils]]) (.bool true) (av [rF 0 1,M9 0 [bv u]]):=by
  exact wcq Tryz.func221 (.go 8<|.ren [0,2,1] [] [3]<|.frz 2 [3] .fin) fun a=>et (cn rt rt ti) a
theorem WM(u:TUnit)(ep n:Nat)(l:List PId)(hn:n=l.length)(hl:l.length<2^30):kD 221 [eU u,.ptr 0 0 0 0] (av [rF ep n,M9 ep l]) (.bool true) (av [rF (ep+1) (n+1),M9 (ep+1) (l++[bv u])]):=by
  exact ej Tryz.func221 fun a=>K1 5 .app (cn (aU ep) (sA:n=(l.map aV).length) (by(refine aO (m:=2^31) ?_ ?_ ?_<;>omega):small (n+1) 24=true))<|M1 (.obj 1<|aZ 3 true (ep+1)<|(l++[PId.mk u.act u.item u.n]).map aV) (congrArg (aZ 3 true<|ep+1)<|dQ (f:=aV) (l:=l) (ws:=[PId.mk u.act u.item u.n]))<|K1 1 (.frz 2 [3]) (cn (tR 3 true (ep+1) 2<|aX Jh<|l++[PId.mk u.act u.item u.n]) rt ti)<|Mf a
theorem NO:∀(u:TUnit),∀(ep n:Nat)(l:List PId),n=l.length→l.length+nU u<2^30→kC 219 [eU u,.func (.func 221) [] [.ptr 0 0 0 0]] (av [rF ep n,M9 ep l])
    (fun v h=>∃y:Nat×Nat×List PId,(y.2.1=y.2.2.length∧y.2.2=l++dx u)∧v=.bool true∧h=av [rF y.1 y.2.1,M9 y.1 y.2.2]):=by
  refine TUnit.ind fun u ih ep n l hn hl=>?_
  have hq:=jZ u
  have hkl:=bf u
  exact qQ Tryz.func219 fun a=>K1 3 (.frz 2 [1,2,7,8]) (cn (tR 3 true ep 2<|aX Jh l) rt ti)<|Me (WM u ep n l hn oA)<|Kl 4 13 (ln aK u.kids)<|Mg 0<|Vj aK u.kids (ep+1) (n+1) (l++[bv u]) [1,12,13,14] (fun a _ b c d=>([bj (bx 221) [] [bU 0 0 0 0],aW<|u.kids.map aK,nV u.kids.length,nV a],[aZ 1 false 0 [aN 1 b 0 c none],aZ 3 true b<|d.map aV])) (fun a _ b c=>b=c.length∧c++ie a=l++[bv u]++ie u.kids∧c.length+eY a<2^30) gR (fun _ _ b c d _ _ _ e _=>Kh 0 e<|Kf 0<|a (b,c,d)<|by grind[rv,nb]) fun a _ b c d e f g i j k m _ o _=>have o:=(o).trans<|congrArg some<|aR g;have:=cw (J:=fun a b=>b.2.1=b.2.2.length∧b.2.2++ie a=l++[bv u]++ie u.kids∧b.2.2.length+eY a<2^30) (a:=(b,c,d)) k f;have e:=bZ e k;have f:d.length+nU g<2^30:=(by grind[bh]);Kt 0 m<|Mx o<|K1 4 (.frz 2 [1,12,13,14,18,19]) (cn (tR 3 true b 2<|aX Jh d) rt ti)<|Mq (ih g e b c d oA f) fun b _=>Kl 2 22 (dK a)<|Kf 0<|j b.1 b.2.1 b.2.2<|by grind[bh,gK,uv]
theorem Ve(l:List PWord)(hl:l.length≤300)(hs:∀w,w∈l→w.text.length≤2^39):kP 305 [.ls (l.map aQ)] (.bool (oh l)):=by
  have hv:=KE (l.map PWord.text) (by grind) (fun s hm=>by grind)
  have rr0 b' (h:(oh l)=b':=by(simp only[oh,aS,aj,bS, *])):=h;exact bD Tryz.func305<|Kl 3 7 (ln aQ l)<|Mg 0<|ko Nat Nat (List aI) aQ l [0,3,6,7,8] (fun a _=>([aW<|l.map aQ,ah,aW<|l.map aQ,nV l.length,nV a],[])) (fun a _ b c d=>([aW<|l.map aQ,aN 0 b 0 c none,aW<|l.map aQ,nV l.length,nV a],[aZ 1 true b<|d.map m0])) (fun a=>a=l) (fun a _ b c=>b=c.length∧(0:Nat)<c.length∧c++List.map PWord.text a=List.map PWord.text l∧c.length+a.length=l.length) (by rfl) (fun _ _ _ _ _ a _=>Kh 0 a<|Kl 1 19 (ln aQ l)<|Kd 1 256 (Int.ofNat l.length) (fun a _=>Kt 0 (cX a)<|Mp (bW.onArgs (.cons (Le.lsn (sA:((l.map PWord.text).map m0)=[])) .nil) hv:kP 236 [ah] _)<|MV (cX a)<|Kf 0<|ca<|rr0<|qq<|l.map PWord.text) fun a _=>Mh (b0 a)<|My (b0 a)<|Kf 0<|ca<|rr0 false) (fun a _ _ _ b c _ d _ e _ f g=>Kt 0 e<|Mx f<|Kl 9 17 (jC a)<|Mg 0<|M0 (.ren [1,0] [] [0,3,6,7,8])<|M1 (.frz 1 [0,3,6,7,8]) (et rt ti)<|Mf<|d 0 1 [b.text]<|by(refine⟨rfl,by simp,?_,?_⟩<;>(rw[←g])<;>(first|rfl|grind))) (fun _ _ a b c _ _ _ d _=>Kh 0 d<|Kl 1 19 (ln aQ l)<|Kd 1 256 (Int.ofNat l.length) (fun d _=>Mg 0<|M2 (.fsl 0 [21] 22<|c.map m0) ti (cn (aU a) (tA m0 c b (oA:(c).length=b))<|aX Jg c)<|Ml 22 (fg (c.map m0) false<|aX Jg c)<|Mt (cX d)<|Mp (bW.onArgs (.cons (cK (sA:((l.map PWord.text).map m0)=(c.map m0))) .nil) hv:kP 236 [aW (c.map m0)] _)<|MV (cX d)<|Kf 0<|ca<|rr0<|qq<|l.map PWord.text) fun a _=>Mh (b0 a)<|My (b0 a)<|Kf 0<|ca<|rr0 false) fun a _ b c d _ _ e f _ g _ i _ j k=>Kt 0 i<|Mx j<|K1 6 .app (cn (aU b) (sA:c=(d.map m0).length) (by(refine aO (m:=2^20) ?_ ?_ ?_<;>omega):small (c+1) 16=true))<|M1 (.obj 0<|aZ 1 true (b+1)<|(d++[e.text]).map m0) (congrArg (aZ 1 true<|b+1)<|dQ (f:=m0) (l:=d) (ws:=[e.text]))<|Kl 1 17 (jC a)<|K1 0 (.frz 1 [0,3,6,7,8]) (et (tR 1 true (b+1) 1<|aX Jg<|d++[e.text]) ti)<|Mf<|g (b+1) (c+1) (d++[e.text])<|by(refine⟨by simp_all,by simp,?_,?_⟩<;>first|(rw[←k.2.2.1];simp;done)|grind)
theorem oR(a b:Nat):Int.ofNat (a+b)=Int.ofNat a+Int.ofNat b:=rfl
theorem Sa(u:TUnit)(h1:u.head.length≤300)(h2:u.words.length≤300)(h3:u.kids.length<2^30)(h4:u.label.length≤2^39)(h5:∀w,w∈u.head→w.text.length≤2^39)(h6:∀w,w∈u.words→w.text.length≤2^39):kP 289 [eU u] (.bool (l0 u)):=by
  have hlk:∀(m:List ((Int×aI)×Bool))(a:Int)(s:aI),dV (some (.bool false)) false (bX true 2 [(0,1),(1,2)] (.agg [iV a,.str s]) (cQ pp dj m 0) 0)=some (.bool (On mR (a,s) m)):=fun m a s=>GY Lw m (a,s)
  have hup:∀(m:List ((Int×aI)×Bool))(a:Int)(s:aI),oB (cQ pp dj m 0) m.length (.agg [iV a,.str s]) (.bool true) (bX true 2 [(0,1),(1,2)] (.agg [iV a,.str s]) (cQ pp dj m 0) 0)=some (cQ pp dj (ft mR (a,s) true m) 0,(ft mR (a,s) true m).length):=fun m a s=>J4 Lw m (a,s)
  have r1:=Ve u.head h1 h5
  have r2:=Ve u.words h2 h6
  have r3:=uV u.label h4
  have rr0 b' (h:(l0 u)=b':=by first|(rw[l0,hj0,mL];simp only[DO,bY,oR,cond_true,cond_false,aS,aj,bS,wj,yd,Bool.not_true,BG,Bool.true_and, *];first|done|rfl)|(simp only[l0,DO,bY,oR,cond_true,cond_false,aS,aj,bS, *];done)|(simp only[l0,mL,DO,bY,oR,cond_true,cond_false,aS,aj,bS, *];done)|(simp only[l0,mL,DO,bY,oR,cond_true,cond_false,aS,aj,bS,wj,yd,Bool.not_true,BG,Bool.true_and, *];first|done|rfl)):=h;exact bD Tryz.func289<|Kj 4 u.kind 0 (fun _ b=>Kn 3 (dT u.label (ByteArray.mk #[]).data.toList) (fun b=>Mt (cX b)<|Mt (cX b)<|Mt (cX b)<|Mt (cX b)<|Mt (cX b)<|Mt (cX b)<|Mt (cX b)<|MV (cX b)<|Ky 1<|rr0 false) fun c=>Kh 0 (b0 c)<|Kh 0 (b0 c)<|Kl 0 16 (ln aQ u.head)<|Mh (b0 c)<|Kh 0 (b0 c)<|Kh 0 (b0 c)<|Kl 0 19 (ln aQ u.words)<|Mh (b0 c)<|Kl 0 20 (Le.wr (x:=Int.ofNat u.head.length+Int.ofNat u.words.length) e9)<|Mh (b0 c)<|Kw 0 (b0 c)<|Mb (ao 0<|Int.ofNat u.head.length+Int.ofNat u.words.length) (fun b=>have:=am b;Ky 0<|rr0 false) fun c=>have:=aB c;Kl 4 48 (ln aK u.kids)<|Mg 0<|JI aK u.kids ([]:List ((Int×aI)×Bool)) [1,3,47,48,49] (fun b _ c=>([bU 0 0 0 0,AV.map 1,aW<|u.kids.map aK,nV u.kids.length,nV b],[aZ 8 false 0 [ab [iV u.act,iV u.item,iV u.n,iV u.kind,ax u.label,aW<|u.head.map aQ,aW<|u.words.map aQ,aW<|u.kids.map aK]],AObj.map (cQ pp dj c 0) c.length])) (fun b c=>mL u.kind u.kids []=mL u.kind b c) (by rfl) (fun _ _ _ _ _ _ b hj0=>Kh 0 b<|Kl 2 74 (ln aK u.kids)<|Kf 1<|ca<|rr0<|aj<|ao 64<|Int.ofNat u.kids.length) fun c _ d _ _ e f g _ i _ j hj0=>have j:=j.trans<|congrArg some<|aR e;Kt 0 i<|Mx j<|Kl 11 59 (pc (k:=IntKind.i64) b)<|Kp 1 (zf 0 e.kind)<|Kn 1 (jV 0 e.kind) (fun b=>Mt (cX b)<|Mt (cX b)<|MV (cX b)<|Ky 1<|rr0 false) fun b=>Kh 0 (b0 b)<|Kh 0 (b0 b)<|M1 (.look<|dD<|On mR (e.kind,e.label) d) (hlk d e.kind e.label)<|My (b0 b)<|Mb (On mR (e.kind,e.label) d) (fun _=>Kf 0<|ca<|rr0 false) fun _=>K1 1 (.upd (cQ pp dj (ft mR (e.kind,e.label) true d) 0) (ft mR (e.kind,e.label) true d).length) (hup d e.kind e.label)<|Kl 0 71 (dK c)<|K1 0 (.frz 2 [1,3,47,48,49]) (cn (tM (ft mR (e.kind,e.label) true d).length 2 (by exact cV Lw Ai _ _:fq (cQ pp dj (ft mR (e.kind,e.label) true d) 0)=0)) rt ti)<|Mf<|g (ft mR (e.kind,e.label) true d)<|by(rw[hj0,mL];simp only[aS,aj,bS, *];done)) fun _ _=>Kp 1 (wO u.kind)<|Kb 1 (dT (c8 u.kind) (ByteArray.mk #[]).data.toList) (fun b=>Mt b<|Mt b<|Mt b<|MV b<|Ky 5<|rr0 false) fun b=>Kh 0 b<|Kh 0 b<|Mp r3<|Mh b<|Kw 0 b<|Kn 0 (kK u.label) (fun b=>Mt (cX b)<|Mt (cX b)<|Mt (cX b)<|MV (cX b)<|Ky 3<|rr0 false) fun b=>Kh 0 (b0 b)<|Kh 0 (b0 b)<|Mp r1<|Mh (b0 b)<|Kw 0 (b0 b)<|Kn 0 (oh u.head) (fun b=>Mt (cX b)<|Mt (cX b)<|Mt (cX b)<|MV (cX b)<|Ky 1<|rr0 false) fun b=>Kh 0 (b0 b)<|Kh 0 (b0 b)<|Mp r2<|Mh (b0 b)<|Kw 0 (b0 b)<|Mn (oh u.words) (fun _=>Ky 0<|rr0 false) fun _=>Kl 4 48 (ln aK u.kids)<|Mg 0<|JI aK u.kids ([]:List ((Int×aI)×Bool)) [1,3,47,48,49] (fun b _ c=>([bU 0 0 0 0,AV.map 1,aW<|u.kids.map aK,nV u.kids.length,nV b],[aZ 8 false 0 [ab [iV u.act,iV u.item,iV u.n,iV u.kind,ax u.label,aW<|u.head.map aQ,aW<|u.words.map aQ,aW<|u.kids.map aK]],AObj.map (cQ pp dj c 0) c.length])) (fun b c=>mL u.kind u.kids []=mL u.kind b c) (by rfl) (fun _ _ _ _ _ _ b hj0=>Kh 0 b<|Kl 2 74 (ln aK u.kids)<|Kf 1<|ca<|rr0<|aj<|ao 64<|Int.ofNat u.kids.length) fun b _ c _ _ d e f _ g _ i hj0=>have i:=i.trans<|congrArg some<|aR d;Kt 0 g<|Mx i<|Kp 13 (zf u.kind d.kind)<|Kn 1 (jV u.kind d.kind) (fun b=>Mt (cX b)<|Mt (cX b)<|MV (cX b)<|Ky 1<|rr0 false) fun g=>Kh 0 (b0 g)<|Kh 0 (b0 g)<|M1 (.look<|dD<|On mR (d.kind,d.label) c) (hlk c d.kind d.label)<|My (b0 g)<|Mb (On mR (d.kind,d.label) c) (fun _=>Kf 0<|ca<|rr0 false) fun _=>K1 1 (.upd (cQ pp dj (ft mR (d.kind,d.label) true c) 0) (ft mR (d.kind,d.label) true c).length) (hup c d.kind d.label)<|Kl 0 71 (dK b)<|K1 0 (.frz 2 [1,3,47,48,49]) (cn (tM (ft mR (d.kind,d.label) true c).length 2 (by exact cV Lw Ai _ _:fq (cQ pp dj (ft mR (d.kind,d.label) true c) 0)=0)) rt ti)<|Mf<|f (ft mR (d.kind,d.label) true c)<|by(rw[hj0,mL];simp only[aS,aj,bS, *];done)
theorem Jw(u:TUnit)(hl:nU u<2^29):kC 219 [eU u,.func (.func 221) [] [.ptr 0 0 0 0]] (av [.row 1 false 0 [.nils]])
    (fun v h=>∃y:Nat×Nat×List PId,(y.2.1=y.2.2.length∧y.2.2=dx u)∧v=.bool true∧h=av [rF y.1 y.2.1,M9 y.1 y.2.2]):=by
  have hq:=jZ u
  have hkl:=bf u
  exact qQ Tryz.func219 fun a=>K1 3 (.frz 1 [1,2,7,8]) (et rt ti)<|Me (WL u)<|Kl 4 13 (ln aK u.kids)<|Mg 0<|Vj aK u.kids (0:Nat) (1:Nat) ([bv u]:List PId) [1,12,13,14] (fun a _ b c d=>([bj (bx 221) [] [bU 0 0 0 0],aW<|u.kids.map aK,nV u.kids.length,nV a],[aZ 1 false 0 [aN 1 b 0 c none],aZ 3 true b<|d.map aV])) (fun a _ b c=>b=c.length∧c++ie a=[bv u]++ie u.kids∧c.length+eY a<2^30) gR (fun _ _ b c d _ _ _ e f=>Kh 0 e<|Kf 0<|a (b,c,d)<|by(refine⟨f.1,?_⟩;have:=f.2.1;rw[rv,ef]at this;rw[this,nb];rfl)) fun a _ b c d e f g i j k l _ m _=>have m:=(m).trans<|congrArg some<|aR g;have:=cw (J:=fun a b=>b.2.1=b.2.2.length∧b.2.2++ie a=[bv u]++ie u.kids∧b.2.2.length+eY a<2^30) (a:=(b,c,d)) k f;have:=bZ e k;have e:d.length+nU g<2^30:=(by grind[bh]);Kt 0 l<|Mx m<|K1 4 (.frz 2 [1,12,13,14,18,19]) (cn (tR 3 true b 2<|aX Jh d) rt ti)<|Mq (NO g b c d oA e) fun b _=>Kl 2 22 (dK a)<|Kf 0<|j b.1 b.2.1 b.2.2<|by grind[bh,gK,uv]
theorem QF(u:TUnit)(hl:nU u<2^29):kP 157 [eU u] (.ls ((dx u).map aV)):=by
  have rr0 b' (h:((dx u).map aV)=b':=by(rw[hy0.2])):=h;exact bD Tryz.func157<|Mg 4<|M0 (.ren [1,0] [] [3,4,5])<|M1 (.frz 1 [3,4,5]) (et rt ti)<|Mq (Jw u hl) fun a hy0=>Mg 1<|M2 (.fsl 0 [] 2<|a.2.2.map aV) ti (cn (aU a.1) (tA aV a.2.2 a.2.1 (oA:(a.2.2).length=a.2.1))<|aX Jh a.2.2)<|Ml 2 (fg (a.2.2.map aV) false<|aX Jh a.2.2)<|Mf<|cK<|rr0<|a.2.2.map aV
theorem WI(u:TUnit)(hl:nU u<2^20):kP 290 [eU u] (.bool (QG u)):=by
  have hb:(dx u).length<2^20:=by grind[uv]
  have hi:=QF u (by omega)
  have hlk:∀(m:List (PId×Bool))(a b c:Int),dV (some (.bool false)) false (bX true 3 [(0,1),(1,1),(2,1)] (.agg [iV a,iV b,iV c]) (cQ aV dj m 0) 0)=some (.bool (On bg ⟨a,b,c⟩ m)):=fun m a b c=>GY JZ m ⟨a,b,c⟩
  have hup:∀(m:List (PId×Bool))(a b c:Int),oB (cQ aV dj m 0) m.length (.agg [iV a,iV b,iV c]) (.bool true) (bX true 3 [(0,1),(1,1),(2,1)] (.agg [iV a,iV b,iV c]) (cQ aV dj m 0) 0)=some (cQ aV dj (ft bg ⟨a,b,c⟩ true m) 0,(ft bg ⟨a,b,c⟩ true m).length):=fun m a b c=>J4 JZ m ⟨a,b,c⟩
  have rr0 b' (h:(QG u)=b':=by((try clear gh1);(try clear gh2);(try clear gh3);(try clear gh4);(try clear gh5);(try clear gh6);(try clear gh7);have e:=C0 (kenc:=aV) (f:=dj) za0 0;simp only[e,lM]at *;simp only[QG,fE,bg,bv,bR,hj0,ME,aS,aj,bS, *];first|done|rfl)):=h;exact bD Tryz.func290<|Kp 2 hi<|Kl 4 12 (ln aV<|dx u)<|Mg 0<|JI aV (dx u) ([]:List (PId×Bool)) [1,3,4,11,12,13] (fun d _ g=>([bU 0 0 0 0,aW<|(dx u).map aV,AV.map 1,aW<|(dx u).map aV,nV (dx u).length,nV d],[aZ 8 false 0 [ab [iV u.act,iV u.item,iV u.n,iV u.kind,ax u.label,aW<|u.head.map aQ,aW<|u.words.map aQ,aW<|u.kids.map aK]],AObj.map (cQ aV dj g 0) g.length])) (fun d g=>CK (dx u) []=CK d g) (by rfl) (fun _ _ za0 _ _ _ d hj0=>Kh 0 d<|K1 1 (.look<|dD<|On bg (PId.mk 0 0 0) za0) (hlk za0 0 0 0)<|Kb 2 (On bg (PId.mk 0 0 0) za0) (fun d=>Kt 0 d<|Kt 0 d<|Ku 0 d<|Kj 0 (Int.ofNat (cQ aV dj za0 0).length) 1 (fun d gh2=>Mt d<|Mt d<|Mt d<|Mt d<|Mt d<|Mt d<|MV d<|Ky 0<|rr0 true) fun d gh2=>Kh 0 d<|Kh 0 d<|Kh 0 d<|Kh 0 d<|Kh 0 d<|Kj 0 (Int.ofNat (cQ aV dj za0 0).length) (Int.ofNat ((dx u).map aV).length) (fun g gh3=>Kt 0 g<|Kt 0 g<|Kt 0 g<|Kt 0 g<|Kt 0 g<|Kt 0 g<|Mv (lj ((Tryz.prog).underlying 34) u.act u.item u.n 0 0 0 h0)<|Mt g<|Kh 0 d<|MV g<|My d<|Kf 0<|ca<|rr0<|al u.kind 0==(al u.act 0&&(al u.item 0&&al u.n 0))) fun g gh3=>Mh g<|Mh g<|Mh g<|Mh g<|Mh g<|Mh g<|Mh g<|Mh d<|My g<|My d<|Ky 0<|rr0 false) fun d=>Mh d<|Mh d<|My d<|Kj 6 (Int.ofNat (cQ aV dj za0 0).length) (Int.ofNat ((dx u).map aV).length) (fun d gh4=>Kt 0 d<|Kt 0 d<|Kt 0 d<|Kt 0 d<|Kt 0 d<|Kt 0 d<|Mv (lj ((Tryz.prog).underlying 34) u.act u.item u.n 0 0 0 h0)<|Mt d<|Ku 0 d<|Kf 1<|ca<|rr0<|al u.kind 0==(al u.act 0&&(al u.item 0&&al u.n 0))) fun d gh4=>Mh d<|Mh d<|Mh d<|Mh d<|Mh d<|Mh d<|Mh d<|My d<|Ky 1<|rr0 false) fun d _ za0 _ _ g i j _ k _ l hj0=>Kt 0 k<|Mx l<|K1 4 (.upd (cQ aV dj (ft bg (PId.mk g.a g.i g.n) true za0) 0) (ft bg (PId.mk g.a g.i g.n) true za0).length) (hup za0 g.a g.i g.n)<|Kl 0 19 (jC d)<|K1 0 (.frz 2 [1,3,4,11,12,13]) (cn (tM (ft bg (PId.mk g.a g.i g.n) true za0).length 2 (by exact cV JZ Ai _ _:fq (cQ aV dj (ft bg (PId.mk g.a g.i g.n) true za0) 0)=0)) rt ti)<|Mf<|j (ft bg (PId.mk g.a g.i g.n) true za0)<|by(rw[hj0];rfl)
/-- What a tree's parts must be, so that the walks can count. -/
def rS(x:TUnit):Prop:=x.head.length≤300∧x.words.length≤300∧x.label.length≤2^39∧(∀w,w∈x.head→w.text.length≤2^39)∧∀w,w∈x.words→w.text.length≤2^39
def ml(u:TUnit):Prop:=nU u≤2^19∧∀x,x∈bp u→rS x
theorem HZ(u:TUnit)(h:ml u):kP 219 [eU u,.func (.func 289) [] []] (.bool (wX l0 u)):=
  Ln 289 l0 u
    (fun x hx=>by
      obtain⟨a,b,c,d,e⟩:=h.2 x hx
      have h1:=bf x
      have h2:=dM hx
      have h3:=h.1
      grind[Sa])
    (by have h1:=bf u;have h3:=h.1;omega)
    (fun x hx=>by
      have h1:=bf x
      have h2:=dM hx
      have h3:=h.1
      omega)
theorem xF(u:TUnit)(h:ml u):kP 260 [eU u] (.bool (kB u)):=by
  have h1:=h.1
  have e1:=HZ u h
  have e2:=Hc u (by omega)
  have e3:=Eb u (by omega)
  have e4:=WI u (by omega)
  have hd:=Ew u
  have rr0 b' (h:(kB u)=b':=by(simp only[kB,aS,aj,bS, *];done)):=h;exact bD Tryz.func260<|Kp 2 e1<|Kb 0 (wX l0 u) (fun a=>Kt 0 a<|Mp e2<|Mt a<|Ku 0 a<|Kn 0 (ao 8<|Int.ofNat<|m5 u) (fun a=>Kt 0 (cX a)<|Mp e3<|Mt (cX a)<|Ku 0 (cX a)<|Kn 0 (ao 1024<|Int.ofNat<|nU u) (fun a=>Kt 0 (cX a)<|Mp e4<|MV (cX a)<|Kf 0<|ca<|rr0<|QG u) fun a=>Mh (b0 a)<|My (b0 a)<|Ky 0<|rr0 false) fun a=>Mh (b0 a)<|Mh (b0 a)<|My (b0 a)<|Ky 2<|rr0 false) fun a=>Mh a<|Mh a<|My a<|Ky 4<|rr0 false
theorem ri(l:List PWord)(hl:l.length<2^30):kP 110 [.ls (l.map aQ)] (.ls (l.map aQ)):=by
  cases l with
  |nil=>exact bW.ls0 (RG.less Le.nils) (RF.lessB (u:=.ls []) (by kernel_rfl))
  |cons w r=>grind[RH]
noncomputable abbrev wv:AObj:=.row 8 false 0 [.agg [iV 0,iV 0,iV 0,iV 0,.str [],.nils,.nils,.nils]]
theorem Hg:∀(u:TUnit),nU u≤2^20→(∀x,x∈bp u→x.head.length<2^30∧x.words.length<2^30)→kP 77 [eU u] (eU u):=by
  refine TUnit.ind fun u ih hn ht=>?_
  have hkl:=bf u
  have c1:=ri u.head (ht u (dq u)).1
  have c2:=ri u.words (ht u (dq u)).2
  have ihk:∀k,k∈u.kids→kP 77 [eU k] (eU k):=fun k hk=>ih k hk (bT (tW (iy hk)) hn) (fun x hx=>ht x (bA hk hx))
  have rr0 b' (h:(u.kids.map aK)=b':=by first|rfl|(rw[←hj0];rfl)|(rw[←hj0.2.2.1,ef])):=h;let q1:=List.map aQ u.words;let q2:=List.map aQ u.head;exact bD Tryz.func77<|Kp 3 c1<|Kp 1 c2<|Kl 7 16 (ln aK u.kids)<|Mg 0<|ko Nat Nat (List TUnit) aK u.kids [1,2,3,15,16,17] (fun a _=>([bU 0 0 0 0,bU 1 0 0 0,ah,aW<|u.kids.map aK,nV u.kids.length,nV a],[aZ 8 false 0 [ab [iV u.act,iV u.item,iV u.n,iV u.kind,ax u.label,aW<|u.head.map aQ,aW<|u.words.map aQ,aW<|u.kids.map aK]],aZ 8 false 0 [ab [iV 0,iV 0,iV 0,iV 0,ax [],ah,ah,ah]]])) (fun a _ b c d=>([bU 0 0 0 0,bU 1 0 0 0,aN 2 b 0 c none,aW<|u.kids.map aK,nV u.kids.length,nV a],[aZ 8 false 0 [ab [iV u.act,iV u.item,iV u.n,iV u.kind,ax u.label,aW<|u.head.map aQ,aW<|u.words.map aQ,aW<|u.kids.map aK]],aZ 8 false 0 [ab [iV 0,iV 0,iV 0,iV 0,ax [],ah,ah,ah]],aZ 8 true b<|d.map aK])) (fun a=>a=u.kids) (fun a _ b c=>b=c.length∧(0:Nat)<c.length∧c++a=u.kids∧c.length+a.length=u.kids.length) (by rfl) (fun _ _ _ _ _ a hj0=>Kh 0 a<|Kl 0 27 bI<|Kf 3 (bQ (lc<|lc<|lc<|lc<|lc<|lc<|lc<|.cons (cK<|rr0 []) .nil)<|by kernel_rfl:Le _ (AV.agg [iV u.act,iV u.item,iV u.n,iV u.kind,AV.str u.label,AV.ls q2,AV.ls q1,AV.ls []]))) (fun a _ _ b c d _ e f g _ i _=>have i:=(i).trans<|congrArg some<|aR c;have hj0:=cw (J:=fun a _=>a=u.kids) (a:=()) f b;Kt 0 g<|Mx i<|Kp 4 (ihk c gR)<|K1 1 (.obj 3<|aZ 8 true 0<|List.map aK [c]) (congrArg (aZ 8 true 0)<|TO (f:=aK) (g:=Go.Ev.eU) (ws:=[c]) aR)<|Kl 1 26 (dK a)<|K1 0 (.ren [0,1,3,2] [3] [1,2,3,15,16,17]) (tS 8 true 0<|aX iW [c])<|M1 (.frz 3 [1,2,3,15,16,17]) (jJ (tR 8 true 0 3<|aX iW [c]) rt rt ti)<|Mf<|e 0 1 [c]<|by(refine⟨rfl,by simp,?_,?_⟩<;>(rw[←hj0])<;>(first|rfl|grind))) (fun _ _ a b c _ _ _ d hj0=>let e:=List.map aK c;Kh 0 d<|Mg 0<|M2 (.fsl 2 [1,2] 27 e) (cn rt rt ti) (cn (aU a) (tA aK c b (oA:(c).length=b))<|aX iW c)<|Ml 27 (fg e false<|aX iW c)<|Kf 3 (bQ (lc<|lc<|lc<|lc<|lc<|lc<|lc<|.cons (cK<|rr0 e) .nil)<|by kernel_rfl:Le _ (AV.agg [iV u.act,iV u.item,iV u.n,iV u.kind,AV.str u.label,AV.ls q2,AV.ls q1,AV.ls e]))) fun a _ b c d _ e f g _ i j l _ n _=>have n:=(n).trans<|congrArg some<|aR f;have hj0:=cw (J:=fun a b=>b.2.1=b.2.2.length∧(0:Nat)<b.2.2.length∧b.2.2++a=u.kids∧b.2.2.length+a.length=u.kids.length) (a:=(b,c,d)) j e;Kt 0 l<|Mx n<|Kp 4 (ihk f gR)<|K1 0 .app (cn (aU b) (sA:c=(d.map aK).length) (by(refine aO (m:=2^21) ?_ ?_ ?_<;>omega):small (c+1) 120=true))<|M1 (.obj 2<|aZ 8 true (b+1)<|(d++[f]).map aK) (congrArg (aZ 8 true<|b+1)<|yX (f:=aK) (g:=Go.Ev.eU) (l:=d) (ws:=[f]) aR)<|Kl 1 26 (dK a)<|K1 0 (.frz 3 [1,2,3,15,16,17]) (jJ (tR 8 true (b+1) 3<|aX iW<|d++[f]) rt rt ti)<|Mf<|i (b+1) (c+1) (d++[f])<|by(refine⟨by simp_all,by simp,?_,?_⟩<;>first|(rw[←hj0.2.2.1];simp;done)|grind)
theorem W7(p:PId)(u:TUnit)(h:By (cq p u) true)(hn:nU u≤2^20)(ht:∀x,x∈bp u→x.head.length<2^30∧x.words.length<2^30):kP 62 [eU u,aV p] (.tuple [eU (ei p u),.bool true]):=by
  have hw:=FK p u h hn
  have hlen:=mZ (p:=p) u
  have hpos:0<(aG p u).length:=pP.2 (lX h)
  have hm:ei p u∈bp u:=J3 u _ (RW h)
  have hf:ei p u=gD (aG p u) ((aG p u).length -1):=by unfold ei;simp_all
  have hc:=Hg (ei p u) (bT (dM hm) hn) (fun x hx=>ht x (by
    grind[iM]))
  rw[hf]at hc ⊢
  have hz:=Rv hpos
  exact bD Tryz.func62<|Kp 5 hw<|Kl 2 11 (ln aK<|aG p u)<|Kh 0 hz<|Kl 2 16 (ln aK<|aG p u)<|Kl 0 17 (E0 (aG p u).length)<|Mx ((bJ aK (oA:(aG p u).length -1<(aG p u).length)).trans<|congrArg some<|aR _)<|Kp 0 hc<|Kf 1<|bc<|bO [ab [iV (gD (aG p u)<|(aG p u).length -1).act,iV (gD (aG p u)<|(aG p u).length -1).item,iV (gD (aG p u)<|(aG p u).length -1).n,iV (gD (aG p u)<|(aG p u).length -1).kind,ax (gD (aG p u)<|(aG p u).length -1).label,aW<|List.map aQ (gD (aG p u)<|(aG p u).length -1).head,aW<|List.map aQ (gD (aG p u)<|(aG p u).length -1).words,aW<|List.map aK (gD (aG p u)<|(aG p u).length -1).kids],dD true]
theorem W9(p:PId)(u:TUnit)(h:By (cq p u) false)(hn:nU u≤2^20):kP 62 [eU u,aV p] (.tuple [eU bd,.bool false]):=by
  have hw:=J2 p u h hn
  exact bD Tryz.func62<|Kp 5 hw<|Kf 7 (cE<|.cons (bQ (lc<|lc<|lc<|lc<|lc<|.cons bI<|.cons bI<|.cons bI .nil)<|by kernel_rfl)<|lc .nil:Le _ (bO [ab [iV 0,iV 0,iV 0,iV 0,ax [],ah,ah,ah],dD false]))
theorem RX(p:PId)(u:TUnit)(hn:nU u≤2^20)(ht:∀x,x∈bp u→x.head.length<2^30∧x.words.length<2^30):kP 62 [eU u,aV p] (.tuple [eU (ei p u),.bool (cq p u)]):=by
  cases h:cq p u with
  |true=>grind[W7]
  | false=>
    have:=W9 p u h hn
    rwa[show bd=ei p u by unfold ei;simp_all]at this
theorem ifW(l:List PWord)(g:Nat)(q:PWord→Bool)(hp:∀k,k∈l→kP g [aQ k] (.bool (q k)))(hl:l.length<2^40):kP 291 [.ls (l.map aQ),.func (.func g) [] []] (iV (dA q l 0)):=by
  have rr0 b' (h:(dA q l 0)=b':=by first|exact mY zd0 hr0 hj0 ‹_› |exact hj0):=h;exact bD Tryz.func291<|Kl 2 7 (ln aQ l)<|Mg 0<|vZ aQ l [0,1,7,8] (fun a _=>([aW<|l.map aQ,bj (bx g) [] [],nV l.length,nV a],[])) (fun a=>dA q l (0:Nat)=dA q a (l.length-a.length)) sA (fun _ _ zd0 _ hr0 a hj0=>Kh 0 a<|Kf 0<|li<|rr0 (-1)) fun a _ zd0 _ b c d hr0 e _ f hj0=>Kt 0 e<|Kx 4 f<|Kp 0 (hp b<|by exact bZ zd0 hr0)<|Mb (q b) (fun _=>Kf 1<|li<|rr0<|Int.ofNat a) fun _=>Kl 0 18 (dK a)<|Kf 0<|d<|by exact kY zd0 hr0 hj0 (by omega)
theorem cfW(l:List PWord)(g:Nat)(q:PWord→Bool)(hp:∀k,k∈l→kP g [aQ k] (.bool (q k)))(hl:l.length<2^40):kP 263 [.ls (l.map aQ),.func (.func g) [] []] (.bool (l.any q)):=by
  have h:=ifW l g q hp hl
  have rr0 b' (h:(l.any q)=b':=by(rw[lq];simp only[aS,aj,bS,rG])):=h;exact bD Tryz.func263<|Kp 2 h<|Kf 1<|ca<|rr0<|aj<|ao (dA q l 0) 0
theorem Co(w:PWord):kP 262 [aQ w] (.bool (o4 w)):=by
  exact bD Tryz.func262<|Kv 4 (DE ((Tryz.prog).underlying 100) w.act w.item w.at_ 0 0 0<|av [aZ 4 false 0 [ab [ax w.text,iV w.act,iV w.item,iV w.at_]]])<|Kf 0<|bc<|dD<|aj<|al w.act 0&&(al w.item 0&&al w.at_ 0)
theorem SX(u:TUnit)(h1:u.head.length<2^40)(h2:u.words.length<2^40):kP 261 [eU u] (.bool (DY u)):=by
  have c1:=cfW u.head 262 o4 (fun k _=>Co k) h1
  have c2:=cfW u.words 262 o4 (fun k _=>Co k) h2
  have rr0 b' (h:(DY u)=b':=by(simp only[DY,fE,bg,bv,bR,aS,aj,bS, *];first|done|rfl)):=h;exact bD Tryz.func261<|Kv 5 (lj ((Tryz.prog).underlying 34) u.act u.item u.n 0 0 0<|av [aZ 8 false 0 [ab [iV u.act,iV u.item,iV u.n,iV u.kind,ax u.label,aW<|u.head.map aQ,aW<|u.words.map aQ,aW<|u.kids.map aK]]])<|Kb 0 (al u.act 0&&(al u.item 0&&al u.n 0)) (fun a=>Kt 0 a<|Kt 0 a<|Kt 0 a<|Mp c1<|Mt a<|Ku 0 a<|Kn 0 (u.head.any o4) (fun a=>Kt 0 (cX a)<|Kt 0 (cX a)<|Kt 0 (cX a)<|Mp c2<|Mt (cX a)<|Ku 0 (cX a)<|Kf 0<|ca<|rr0<|aj<|u.words.any o4) fun a=>Mh (b0 a)<|Mh (b0 a)<|Mh (b0 a)<|Mh (b0 a)<|My (b0 a)<|Ky 0<|rr0 false) fun a=>Mh a<|Mh a<|Mh a<|Mh a<|My a<|Ky 2<|rr0 false
theorem XA(u:TUnit)(h:ml u):kP 235 [eU u] (.bool (HM u)):=by
  have e1:=xF u h
  have e2:=Ln 261 DY u (fun x hx=>by
      obtain⟨a,b,_⟩:=h.2 x hx
      grind[SX]) (by have h1:=bf u;have h3:=h.1;omega) (fun x hx=>by
      have h1:=bf x
      have h2:=dM hx
      have h3:=h.1
      omega)
  have rr0 b' (h:(HM u)=b':=by(simp only[HM,aS,aj,bS, *];first|done|rfl)):=h;exact bD Tryz.func235<|Kp 2 e1<|Kb 0 (kB u) (fun c=>Kt 0 c<|Mp e2<|MV c<|Kf 0<|ca<|rr0<|wX DY u) fun c=>Mh c<|My c<|Ky 0<|rr0 false
theorem NX(p:PId)(u:TUnit)(hh:cq p u=false)(hn:nU u≤2^20):kP 171 [eU u,aV p] (.tuple [aV bR,iV (-1),.bool false]):=by
  have hw:=J2 p u hh hn
  exact bD Tryz.func171<|Kp 6 hw<|Kf 8<|bc<|bO [ab [iV 0,iV 0,iV 0],iV (-1),dD false]
theorem NZ(p:PId)(u:TUnit)(hh:cq p u=true)(hl:ao (Int.ofNat (aG p u).length) 2=true)(hn:nU u≤2^20):kP 171 [eU u,aV p] (.tuple [aV bR,iV (-1),.bool false]):=by
  have hw:=FK p u hh hn
  exact bD Tryz.func171<|Kp 6 hw<|Kl 2 14 (ln aK<|aG p u)<|Kt 0 hl<|Kf 3<|bc<|bO [ab [iV 0,iV 0,iV 0],iV (-1),dD false]
theorem PB(p:PId)(u:TUnit)(h:iZ p u=false)(hn:nU u≤2^20):kP 171 [eU u,aV p] (.tuple [aV bR,iV (-1),.bool false]):=by
  grind[NX,NZ,iZ]
theorem Pu(p:PId)(u:TUnit)(h:iZ p u=true)(hn:nU u≤2^20):kP 171 [eU u,aV p] (.tuple [aV (so p u),iV (qj p u),.bool true]):=by
  have hl:ao (Int.ofNat (aG p u).length) 2=false:=by grind[iZ]
  have hl2:2≤(aG p u).length:=by have:=aB hl;grind
  have hh:cq p u=true:=by
    cases e:cq p u with
    |true=>rfl
    |false=>grind[QL]
  have hw:=FK p u hh hn
  have hlen:=mZ (p:=p) u
  have hm:Iz p u∈bp u:=J3 u _ (gV (by omega))
  have hkn:∀k,k∈(Iz p u).kids→nU k≤2^20:=fun k hk=>bT (dM (iM hm (Lk hk))) hn
  have hkl:(Iz p u).kids.length<2^40:=by have:=bf (Iz p u);have:=dM hm;omega
  have hi:=ZS (Iz p u).kids 233 p (cq p) (fun k hk=>by
    grind[cq,NW,NJ]) hkl
  rw[ID h,IE h]
  generalize hG:Iz p u=y at *
  have hG2:gD (aG p u) ((aG p u).length -2)=y:=hG
  have rr0 b' (h:((bv y).a)=b':=by(rw[hG2];rfl)):=h;have rr1 b' (h:((bv y).i)=b':=by(rw[hG2];rfl)):=h;have rr2 b' (h:((bv y).n)=b':=by(rw[hG2];rfl)):=h;exact bD Tryz.func171<|Kp 6 hw<|Kl 2 14 (ln aK<|aG p u)<|Kh 0 hl<|Kl 2 19 (ln aK<|aG p u)<|Kl 0 20 (b8 (x:=Int.ofNat (aG p u).length -(2:Int)) (n:=(aG p u).length -2) e9)<|Mx ((bJ aK (oA:(aG p u).length -2<(aG p u).length)).trans<|congrArg some<|aR _)<|Mg 5<|M0 (.ren [2,3,0,1] [] [4,8,24,25])<|M1 (.frz 2 [4,8,24,25]) (cn rt rt ti)<|Mp (bW.onArgs (.cons (cK (by(rw[hG2];done):(y.kids.map aK)=(List.map aK (gD (aG p u) ((aG p u).length -2)).kids)))<|lc .nil) hi:kP 232 [aW (List.map aK (gD (aG p u) ((aG p u).length -2)).kids),bj (bx 233) [] [AV.pptr [ab [iV p.a,iV p.i,iV p.n]] 0 0]] _)<|Kf 6 (cE<|.cons (bQ (.cons (li<|rr0 (gD (aG p u)<|(aG p u).length -2).act)<|.cons (li<|rr1 (gD (aG p u)<|(aG p u).length -2).item)<|.cons (li<|rr2 (gD (aG p u)<|(aG p u).length -2).n) .nil)<|by kernel_rfl)<|lc<|lc .nil:Le _ (bO [ab [iV (gD (aG p u) ((aG p u).length -2)).act,iV (gD (aG p u) ((aG p u).length -2)).item,iV (gD (aG p u) ((aG p u).length -2)).n],iV (dA (cq p) y.kids 0),dD true]))
theorem PA(p:PId)(u:TUnit)(hn:nU u≤2^20):kP 171 [eU u,aV p] (.tuple [aV (so p u),iV (qj p u),.bool (iZ p u)]):=by
  grind[iZ,Pu,WY,PD,PB]
theorem ZU(p:PId)(u:TUnit)(h:cq p u=false)(hn:nU u≤2^20):kP 217 [eU u,aV p] (.ls ((pG p u).map aV)):=by
  have hw:=J2 p u h hn
  have e:pG p u=[]:=by unfold pG;rw[AK h];rfl
  rw[e]
  let q:=[aZ 8 false 0 [ab [iV u.act,iV u.item,iV u.n,iV u.kind,ax u.label,aW (u.head.map aQ),aW (u.words.map aQ),aW (u.kids.map aK)]],aZ 3 false 0 [ab [iV p.a,iV p.i,iV p.n]]];let q1:=[ah,ah,iV (IntKind.i64.wrap (0-2))];exact bD Tryz.func217<|Kp 5 hw<|Mg 4<|Zv [5,6,7] (q1,q) True 0 ti fun _ _=>Kf 4 bI
theorem ZY(p:PId)(u:TUnit)(h:cq p u=true)(hn:nU u≤2^20):kP 217 [eU u,aV p] (.ls ((pG p u).map aV)):=by
  have hw:=FK p u h hn
  have hlen:=mZ (p:=p) u
  have hpos:0<(aG p u).length:=pP.2 (lX h)
  have hac:=Dq p u
  have rr0 b' (h:((pG p u).map aV)=b':=by first|rfl|(rw[Sw hx0 ‹_›];rfl)|(rw[Sv hx0.2.1 oA ‹_›])):=h;exact bD Tryz.func217<|Kp 5 hw<|Kl 0 6 (fg ((aG p u).map aK) false<|aX iW<|aG p u)<|Kl 1 12 (ln aK<|aG p u)<|Kl 0 13 (Le.wr (x:=Int.ofNat (aG p u).length -2) e9)<|K1 0 (.frz 0 [5,6,7]) ti<|Sm Int Nat Nat (List PId) (Int.ofNat (aG p u).length -2) [5,6,7] (fun a=>([ah,aW<|(aG p u).map aK,iV a],[])) (fun a b c d=>([aN 0 b 0 c none,aW<|(aG p u).map aK,iV a],[aZ 3 true b<|d.map aV])) (fun a=>a=Int.ofNat (aG p u).length -(2:Int)) (fun a _ b c=>b=c.length∧c=oy p u (a+(1:Int)).toNat∧((-1):Int)≤a∧a+(2:Int)≤↑(aG p u).length∧c.length≤(aG p u).length) (fun a=>(a+1).toNat) (fun a _ _ _=>(a+1).toNat) (by rfl) (fun a hx0 _ b=>have hx0:=hx0;Kd 1 a 0 (fun _ _=>Kl 2 20 (BK (x:=a) oA)<|Mx ((bJ aK (gR:a.toNat<(aG p u).length)).trans<|congrArg some<|aR _)<|Kl 6 17 (Le.wr (x:=a-1) e9)<|Kf 0<|b (a-1) 0 1 [PId.mk (gD (aG p u) a.toNat).act (gD (aG p u) a.toNat).item (gD (aG p u) a.toNat).n] (by exact⟨rfl,Oz hx0 (by omega),by omega,by grind,by grind⟩) oA) fun _ _=>Kf 1 (Le.lsn<|rr0 []:Le _ (ah))) fun a b c d hx0 _ e=>have hx0:=hx0;Kd 1 a 0 (fun _ _=>Kl 2 20 (BK (x:=a) oA)<|Mx ((bJ aK (oA:a.toNat<(aG p u).length)).trans<|congrArg some<|aR _)<|K1 2 .app (cn (aU b) (sA:c=(d.map aV).length) (by(refine aO (m:=2^21) ?_ ?_ ?_<;>omega):small (c+1) 24=true))<|M1 (.obj 0<|aZ 3 true (b+1)<|(d++[PId.mk (gD (aG p u) a.toNat).act (gD (aG p u) a.toNat).item (gD (aG p u) a.toNat).n]).map aV) (congrArg (aZ 3 true<|b+1)<|dQ (f:=aV) (l:=d) (ws:=[PId.mk (gD (aG p u) a.toNat).act (gD (aG p u) a.toNat).item (gD (aG p u) a.toNat).n]))<|Kl 2 17 (Le.wr (x:=a-1) e9)<|Kf 0<|e (a-1) (b+1) (c+1) (d++[PId.mk (gD (aG p u) a.toNat).act (gD (aG p u) a.toNat).item (gD (aG p u) a.toNat).n]) (by exact⟨by simp_all,HT hx0.2.1 hx0.2.2.2.1 (by omega),by omega,by omega,by(have z:=HT hx0.2.1 hx0.2.2.2.1 (by omega);grind)⟩) oA) fun _ _=>Mg 1<|M2 (.fsl 0 [] 4<|d.map aV) ti (cn (aU b) (tA aV d c (oA:(d).length=c))<|aX Jh d)<|Ml 4 (fg (d.map aV) false<|aX Jh d)<|Mf<|cK<|rr0<|d.map aV
theorem HS(p:PId)(u:TUnit)(hn:nU u≤2^20):kP 217 [eU u,aV p] (.ls ((pG p u).map aV)):=by
  grind[ZY,ZU]
theorem kO(u:TUnit)(s:PStep):kP 249 [eU u,az s] (.bool (bC s u)):=by
  have rr0 b' (h:(bC s u)=b':=by(simp only[bC,bY,aS,aj,bS, *];first|done|rfl)):=h;exact bD Tryz.func249<|Kb 8 (al u.kind s.kind) (fun a=>Kt 0 a<|Kt 0 a<|Kt 0 a<|Kt 0 a<|Ku 0 a<|Kf 0<|ca<|rr0<|dT u.label s.label) fun a=>Mh a<|Mh a<|Mh a<|Mh a<|My a<|Ky 0<|rr0 false
noncomputable abbrev ji(p:List PStep):AObj:=.row 1 false 0 [.ls (p.map az)]
noncomputable abbrev Eo(ep n:Nat):AObj:=.row 1 false 0 [.slice 2 ep 0 n none]
noncomputable abbrev Bg(ep:Nat)(l:List TUnit):AObj:=.row 8 true ep (l.map aK)
noncomputable abbrev Nv:AObj:=.row 1 false 0 [.nils]
theorem CG(s:PStep)(rs:List PStep)(u:TUnit)(h:By (bC s u) false):kD 248 [eU u,.ptr 0 0 0 0,.ptr 1 0 0 0] (av [ji (s::rs),Nv]) (.tuple []) (av [ji (s::rs),Nv]):=by
  have h':bC s u=false:=h
  exact ej Tryz.func248 fun a=>Kp 4 (kO u s)<|Mh h'<|M1 (.frz 2 []) (cn rt rt ti)<|Mf a
theorem Jz(s:PStep)(rs:List PStep)(u:TUnit)(h:By (bC s u) true):kD 248 [eU u,.ptr 0 0 0 0,.ptr 1 0 0 0] (av [ji (s::rs),Nv]) (.tuple []) (av [ji (s::rs),Eo 0 1,Bg 0 [u]]):=by
  have h':bC s u=true:=h
  exact Oi Tryz.func248<|Kp 4 (kO u s)<|Mt h'<|Mg 7<|M0 (.ren [0,1,3,2] [] [])<|M1 (.frz 3 []) (jJ rt rt rt ti)<|Mf<|et (aU<|bO []) (by(simp only[Bg,eF,yb,aR];rfl):(av [AObj.row 1 false 0 [AV.ls ((s::rs).map az)],AObj.row 1 false 0 [AV.slice 2 0 0 1 none],AObj.row 8 true 0 [AV.agg [iV u.act,iV u.item,iV u.n,iV u.kind,AV.str u.label,AV.ls (u.head.map aQ),AV.ls (u.words.map aQ),AV.ls (u.kids.map aK)]]])=(av [ji (s::rs),Eo 0 1,Bg 0 [u]]))
theorem NC(s:PStep)(rs:List PStep)(u:TUnit)(ep n:Nat)(l:List TUnit)(h:By (bC s u) false):kD 248 [eU u,.ptr 0 0 0 0,.ptr 1 0 0 0] (av [ji (s::rs),Eo ep n,Bg ep l]) (.tuple []) (av [ji (s::rs),Eo ep n,Bg ep l]):=by
  have h':bC s u=false:=h
  exact ej Tryz.func248 fun a=>Kp 4 (kO u s)<|Mh h'<|M1 (.frz 3 []) (jJ (tR 8 true ep 3<|aX iW l) rt rt ti)<|Mf a
theorem ND(s:PStep)(rs:List PStep)(u:TUnit)(ep n:Nat)(l:List TUnit)(h:By (bC s u) true)(hn:n=l.length)(hl:l.length<2^30):kD 248 [eU u,.ptr 0 0 0 0,.ptr 1 0 0 0] (av [ji (s::rs),Eo ep n,Bg ep l]) (.tuple []) (av [ji (s::rs),Eo (ep+1) (n+1),Bg (ep+1) (l++[u])]):=by
  have h':bC s u=true:=h
  let q:=[iV 0,iV 0,iV 0,iV 0,ax [],ah,ah,ah];let q1:=List.map aK l++[ab q];exact ej Tryz.func248 fun a=>Kp 4 (kO u s)<|Mt h'<|Mg 3<|Mw (.apx q1<|.rix<|.rst (ab q) ((l++[u]).map aK)<|.go 0<|.frz 3 [] .fin)<|XX rt (gS (tR 8 true ep 4<|aX iW l) rt) (et (pf _ _:([ab q]:List AV)≠[]) rt) (et (cn (aU ep) (sA:n=(l.map aK).length) (by(refine aO (m:=2^31) ?_ ?_ ?_<;>(try simp only[lC,lN])<;>omega):small (n+([AV.agg [iV 0,iV 0,iV 0,iV 0,AV.str [],AV.nils,AV.nils,AV.nils]]).length) 120=true))<|aU q1) (et (aU<|ep+1) (oA:n<n+1)) rt (gS (tR 8 true (ep+1) 4 (by exact V3 _ rfl:aq q1=0)) rt) (cn (aU<|ep+1) (P6 (f:=aK) (l:=l) (z:=ab q) (oA:n=(l).length))<|Pw (f:=aK) (g:=Go.Ev.eU) aR (l:=l) (z:=ab q) (w:=u) (oA:n=(l).length)) (jJ (tR 8 true (ep+1) 3<|aX iW<|l++[u]) rt rt ti) a
theorem Hv(s:PStep)(rs:List PStep):∀(u:TUnit),∀(ep n:Nat)(l:List TUnit),n=l.length→l.length+nU u<2^30→kC 247 [eU u,.func (.func 248) [] [.ptr 0 0 0 0,.ptr 1 0 0 0]] (av [ji (s::rs),Eo ep n,Bg ep l])
    (fun v h=>∃y:Nat×Nat×List TUnit,(y.2.1=y.2.2.length∧y.2.2=l++lJ s u)∧v=.tuple []∧h=av [ji (s::rs),Eo y.1 y.2.1,Bg y.1 y.2.2]):=by
  refine TUnit.ind fun u ih ep n l hn hl=>?_
  have hq:=jZ u
  have hkl:=bf u
  have hp:=zq s u
  rcases Bool.eq_false_or_eq_true (bC s u)with hc|hc
  · rw[hc]at hp
    exact qQ Tryz.func247 fun a=>K1 2 (.frz 3 [1,2,6,7]) (jJ (tR 8 true ep 3<|aX iW l) rt rt ti)<|Me (ND s rs u ep n l hc hn oA)<|Kl 2 11 (ln aK u.kids)<|Mg 0<|Vj aK u.kids (ep+1) (n+1) (l++[u]) [1,10,11,12] (fun a _ b c d=>([bj (bx 248) [] [bU 0 0 0 0,bU 1 0 0 0],aW<|u.kids.map aK,nV u.kids.length,nV a],[aZ 1 false 0 [aW<|(s::rs).map az],aZ 1 false 0 [aN 2 b 0 c none],aZ 8 true b<|d.map aK])) (fun a _ b c=>b=c.length∧c++dz s a=l++[u]++dz s u.kids∧c.length+eY a<2^30) gR (fun _ _ b c d _ _ _ e _=>Kh 0 e<|Mf<|a (b,c,d)<|by grind[mG]) fun a _ b c d e f g i j k m _ o _=>have o:=(o).trans<|congrArg some<|aR g;have:=cw (J:=fun a b=>b.2.1=b.2.2.length∧b.2.2++dz s a=l++[u]++dz s u.kids∧b.2.2.length+eY a<2^30) (a:=(b,c,d)) k f;have e:=bZ e k;have f:d.length+nU g<2^30:=(by grind[bh]);Kt 0 m<|Mx o<|K1 4 (.frz 3 [1,10,11,12,16,17]) (jJ (tR 8 true b 3<|aX iW d) rt rt ti)<|Mq (ih g e b c d oA f) fun b _=>Kl 0 19 (dK a)<|Kf 0<|j b.1 b.2.1 b.2.2<|by grind[bh,gr,ma]
  · rw[hc]at hp
    exact qQ Tryz.func247 fun a=>K1 2 (.frz 3 [1,2,6,7]) (jJ (tR 8 true ep 3<|aX iW l) rt rt ti)<|Me (NC s rs u ep n l hc)<|Kl 2 11 (ln aK u.kids)<|Mg 0<|Vj aK u.kids ep n l [1,10,11,12] (fun a _ b c d=>([bj (bx 248) [] [bU 0 0 0 0,bU 1 0 0 0],aW<|u.kids.map aK,nV u.kids.length,nV a],[aZ 1 false 0 [aW<|(s::rs).map az],aZ 1 false 0 [aN 2 b 0 c none],aZ 8 true b<|d.map aK])) (fun a _ b c=>b=c.length∧c++dz s a=l++dz s u.kids∧c.length+eY a<2^30) gR (fun _ _ b c d _ _ _ e _=>Kh 0 e<|Mf<|a (b,c,d)<|by grind[mG]) fun a _ b c d e f g i j k m _ o _=>have o:=(o).trans<|congrArg some<|aR g;have:=cw (J:=fun a b=>b.2.1=b.2.2.length∧b.2.2++dz s a=l++dz s u.kids∧b.2.2.length+eY a<2^30) (a:=(b,c,d)) k f;have e:=bZ e k;have f:d.length+nU g<2^30:=(by grind[bh]);Kt 0 m<|Mx o<|K1 4 (.frz 3 [1,10,11,12,16,17]) (jJ (tR 8 true b 3<|aX iW d) rt rt ti)<|Mq (ih g e b c d oA f) fun b _=>Kl 0 19 (dK a)<|Kf 0<|j b.1 b.2.1 b.2.2<|by grind[bh,gr,ma]
theorem Hy(s:PStep)(rs:List PStep):∀(u:TUnit),nU u≤2^20→By (lJ s u).isEmpty true→kD 247 [eU u,.func (.func 248) [] [.ptr 0 0 0 0,.ptr 1 0 0 0]] (av [ji (s::rs),Nv]) (.tuple []) (av [ji (s::rs),Nv]):=by
  refine TUnit.ind fun u ih hn he=>?_
  have hkl:=bf u
  have hp:=zq s u
  have he':=List.isEmpty_iff.1 (show(lJ s u).isEmpty=true from he)
  rw[he']at hp
  rcases Bool.eq_false_or_eq_true (bC s u)with hc|hc
  · grind
  · rw[hc]at hp
    have hp:dz s u.kids=[]:=hp.symm
    exact ej Tryz.func247 fun a=>K1 2 (.frz 2 [1,2,6,7]) (cn rt rt ti)<|Me (CG s rs u hc)<|Kl 2 11 (ln aK u.kids)<|Mg 0<|vZ aK u.kids [1,10,11,12] (fun a _=>([bj (bx 248) [] [bU 0 0 0 0,bU 1 0 0 0],aW<|u.kids.map aK,nV u.kids.length,nV a],[aZ 1 false 0 [aW<|(s::rs).map az],aZ 1 false 0 [ah]])) (fun a=>dz s a=[]) oA (fun _ _ _ _ _ b _=>Kh 0 b<|Mf a) fun a _ b _ c d e f g _ h i=>have h:=h.trans<|congrArg some<|aR c;have j:=bZ b f;have b:=bT (tW<|iy<|bZ b f) hn;have f:(lJ s c).isEmpty=true:=(by rw[gr]at i;rw[(List.append_eq_nil_iff.1 i).1];rfl);Kt 0 g<|Mx h<|K1 4 (.frz 2 [1,10,11,12,16,17]) (cn rt rt ti)<|Me (ih c j b f)<|Kl 0 19 (dK a)<|Kf 0<|e<|by grind[gr]
theorem Rd(s:PStep)(rs:List PStep):∀(u:TUnit),nU u≤2^20→By (lJ s u).isEmpty false→kC 247 [eU u,.func (.func 248) [] [.ptr 0 0 0 0,.ptr 1 0 0 0]] (av [ji (s::rs),Nv])
    (fun v h=>∃y:Nat×Nat×List TUnit,(y.2.1=y.2.2.length∧y.2.2=lJ s u)∧v=.tuple []∧h=av [ji (s::rs),Eo y.1 y.2.1,Bg y.1 y.2.2]):=by
  refine TUnit.ind fun u ih hn he=>?_
  have hq:=jZ u
  have hkl:=bf u
  have hp:=zq s u
  rcases Bool.eq_false_or_eq_true (bC s u)with hc|hc
  · rw[hc]at hp
    exact qQ Tryz.func247 fun a=>K1 2 (.frz 2 [1,2,6,7]) (cn rt rt ti)<|Me (Jz s rs u hc)<|Kl 2 11 (ln aK u.kids)<|Mg 0<|Vj aK u.kids (0:Nat) (1:Nat) ([u]:List TUnit) [1,10,11,12] (fun a _ b c d=>([bj (bx 248) [] [bU 0 0 0 0,bU 1 0 0 0],aW<|u.kids.map aK,nV u.kids.length,nV a],[aZ 1 false 0 [aW<|(s::rs).map az],aZ 1 false 0 [aN 2 b 0 c none],aZ 8 true b<|d.map aK])) (fun a _ b c=>b=c.length∧c++dz s a=[u]++dz s u.kids∧c.length+eY a<2^30) gR (fun _ _ b c d _ _ _ e _=>Kh 0 e<|Mf<|a (b,c,d)<|by grind[mG]) fun a _ b c d e f g i j k l _ m _=>have m:=(m).trans<|congrArg some<|aR g;have:=cw (J:=fun a b=>b.2.1=b.2.2.length∧b.2.2++dz s a=[u]++dz s u.kids∧b.2.2.length+eY a<2^30) (a:=(b,c,d)) k f;have:=bZ e k;have e:d.length+nU g<2^30:=(by grind[bh]);Kt 0 l<|Mx m<|K1 4 (.frz 3 [1,10,11,12,16,17]) (jJ (tR 8 true b 3<|aX iW d) rt rt ti)<|Mq (Hv s rs g b c d oA e) fun b _=>Kl 0 19 (dK a)<|Kf 0<|j b.1 b.2.1 b.2.2<|by grind[bh,gr,ma]
  · rw[hc]at hp
    have hne:dz s u.kids≠[]:=fun e=>by
      simp_all
    exact qQ Tryz.func247 fun a=>K1 2 (.frz 2 [1,2,6,7]) (cn rt rt ti)<|Me (CG s rs u hc)<|Kl 2 11 (ln aK u.kids)<|Mg 0<|ko Nat Nat (List TUnit) aK u.kids [1,10,11,12] (fun a _=>([bj (bx 248) [] [bU 0 0 0 0,bU 1 0 0 0],aW<|u.kids.map aK,nV u.kids.length,nV a],[aZ 1 false 0 [aW<|(s::rs).map az],aZ 1 false 0 [ah]])) (fun a _ b c d=>([bj (bx 248) [] [bU 0 0 0 0,bU 1 0 0 0],aW<|u.kids.map aK,nV u.kids.length,nV a],[aZ 1 false 0 [aW<|(s::rs).map az],aZ 1 false 0 [aN 2 b 0 c none],aZ 8 true b<|d.map aK])) (fun a=>a≠[]∧dz s a=dz s u.kids) (fun a _ b c=>b=c.length∧c++dz s a=dz s u.kids∧c.length+eY a<2^30) (by(exact⟨KM rfl hne,rfl⟩)) (fun _ _ _ _ _ _ _=>Mw .abs (sA:False)) (fun a _ b c d f g i j k _ l _=>have l:=(l).trans<|congrArg some<|aR d;have:=cw (J:=fun a _=>a≠[]∧dz s a=dz s u.kids) (a:=()) j c;have c:=bZ b j;have m:=bT (tW<|iy<|bZ b j) hn;have:nU d+eY f≤2^20:=(by have z:=oH b j;omega);Kt 0 k<|Mx l<|K1 4 (.frz 2 [1,10,11,12,16,17]) (cn rt rt ti)<|Ms (lJ s d).isEmpty (fun b=>Me (Hy s rs d m b)<|Kl 0 19 (dK a)<|Kf 0<|g<|by(have e:dz s f=dz s u.kids:=(by grind[gr]);exact⟨KM e hne,e⟩)) fun b=>Mq (ih d c m b) fun b _=>Kl 0 19 (dK a)<|Kf 0<|i b.1 b.2.1 b.2.2<|by grind[gr,ma]) (fun _ _ b c d _ _ _ f g=>Kh 0 f<|Mf<|a (b,c,d)<|by(refine⟨g.1,?_⟩;have:=g.2.1;rw[mG,ef]at this;simp_all)) fun a _ b c d f g i j _ k l m _ n _=>have n:=(n).trans<|congrArg some<|aR i;have:=cw (J:=fun a b=>b.2.1=b.2.2.length∧b.2.2++dz s a=dz s u.kids∧b.2.2.length+eY a<2^30) (a:=(b,c,d)) l g;have:=bZ f l;have:=bT (tW<|iy<|bZ f l) hn;have:nU i+eY j≤2^20:=(by have z:=oH f l;omega);Kt 0 m<|Mx n<|K1 4 (.frz 3 [1,10,11,12,16,17]) (jJ (tR 8 true b 3<|aX iW d) rt rt ti)<|Mq (Hv s rs i b c d oA<|by grind[bh]) fun b _=>Kl 0 19 (dK a)<|Kf 0<|k b.1 b.2.1 b.2.2<|by grind[gr,ma]
end Go.Proofs.YtaepacpodblomaaGreatDoor
