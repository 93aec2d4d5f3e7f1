/- Functions walked: what each of them answers, for the law of disjoint versions: part 1. Conditions: those that each theorem names. -/
import Derived.Test.YtjokefckffbpeaaGreatDoorCmb
import Derived.Test.YtjokefckffbpeaaGreatDoorLay
import Derived.Test.YtjokefckffbpeaaGreatDoorLay2
namespace Go.Proofs.YtjokefckffbpeaaGreatDoor
open Go Go.Ev
noncomputable abbrev cb:=@Le.bool
noncomputable abbrev aW:=@AV.ls
noncomputable abbrev ay:=@AV.agg
noncomputable abbrev aj:=@AV.str
noncomputable abbrev bU:=@AV.func
noncomputable abbrev bY:=@Fn.func
noncomputable abbrev eT:=@Le.ps
noncomputable abbrev i7:=@AV.ps
noncomputable abbrev bp:=@Le.refl
noncomputable abbrev eS:=@AV.bool
noncomputable abbrev cH:=@Le.tuple
noncomputable abbrev b9:=@AV.tuple
noncomputable abbrev ab:=@AV.nils
noncomputable abbrev aZ:=@AObj.row
noncomputable abbrev fj:=@Si
noncomputable abbrev bJ:=@AV.ptr
noncomputable abbrev aE:=@AV.slice
noncomputable abbrev bL:=@Le.nils
noncomputable abbrev Z3:=@ARes.val
noncomputable def qx(x:PWord):Bool:=ax (aC 100 (.ofNat x.text.length))
noncomputable def mH(ws:List PWord):Bool:=ws.all qx&&ax (aC 300 (.ofNat ws.length))
theorem GU(x:Int):kP 54 [iV x] (.bool false):=by
  have rr0 b' (h:(false)=b':=by simp[bx]):=h;exact wk Tryz.func54 (.go 4 .fin)<|cb<|rr0<|ax<|ah x x
theorem pg(x y:Int):kP 35 [iV x,iV y] (iV (j8 x y)):=by
  have rr0 b' (h:(j8 x y)=b':=by simp[j8, *]):=h;exact bM Tryz.func35<|Kp 1 (GU x)<|Kp 1 (GU y)<|Kb 7 (aC x y) (fun _=>Kf 0<|li<|rr0 (-1)) fun _=>Kb 2 (aC y x) (fun _=>Kf 0<|li<|rr0 1) fun _=>Kf 0<|li<|rr0 0
theorem Fk(ws:List PWord)(hl:ws.length<2^60):kP 104 [.ls (ws.map aQ)] (.bool (mH ws)):=by
  have rr0 b' (h:(mH ws)=b':=by simp only[mH,qx,aS,ax,bS, *]):=h;exact bM Tryz.func104<|Mg 1<|tJ aQ ws [0,3] (fun a _=>([aW<|ws.map aQ,nV a],[])) (fun a=>ws.all qx=a.all qx) (by rfl) (fun _ _ _ _ _ a _=>Kl 2 6 (ln aQ ws)<|Kh 0 a<|Kl 1 18 (ln aQ ws)<|Kf 1<|cb<|rr0<|ax<|aC 300<|Int.ofNat ws.length) fun a _ _ _ b c d _ e _ f _=>Kl 2 6 (ln aQ ws)<|Kt 0 e<|Kx 1 f<|Ka 3 100 (Int.ofNat<|List.length b.text) (fun _ _=>Ky 0<|rr0 false) fun _ _=>Kl 1 9 (dq a)<|Kf 0<|d<|by simp_all[qx]
mutual
noncomputable def kL:TUnit→Bool
  |⟨_,_,_,_,label,h,w,kids⟩=>ax (aC 30 (.ofNat label.length))&&mH h&&mH w&&yg kids
noncomputable def yg:List TUnit→Bool
  |[]=>true
  |u::r=>kL u&&yg r
end
theorem BP:∀(l:List TUnit),yg l=l.all kL
  |[]=>by rw[yg];rfl
  |u::r=>by rw[yg,BP r];rfl
theorem BR(u:TUnit):kL u=(ax (aC 30 (.ofNat u.label.length))&&mH u.head&&mH u.words&&u.kids.all kL):=by
  obtain⟨a,b,c,d,e,f,g,h⟩:=u
  rw[kL,BP];rfl
theorem Ob:∀(u:TUnit),mb u→kP 81 [eU u] (.bool (kL u)):=by
  refine TUnit.ind fun u ih hf=>?_
  obtain⟨f1,f2,f3,f4⟩:=ll.1 hf
  have rr0 b' (h:(kL u)=b':=by rw[BR];simp only[aS,ax,bS, *]):=h;exact bM Tryz.func81<|Ka 6 30 (Int.ofNat<|List.length u.label) (fun a _=>Mt a<|Mt a<|Mt a<|MV a<|Ky 3<|rr0 false) fun a _=>Kh 0 a<|Kh 0 a<|Mp (Fk u.head f1)<|Mh a<|Kw 0 a<|Kn 0 (mH u.head) (fun a=>Mt (bo a)<|Mt (bo a)<|Mt (bo a)<|MV (bo a)<|Ky 1<|rr0 false) fun a=>Kh 0 (bw a)<|Kh 0 (bw a)<|Mp (Fk u.words f2)<|Mh (bw a)<|Kw 0 (bw a)<|Mn (mH u.words) (fun _=>Ky 0<|rr0 false) fun _=>K1 0 (.frz 0 [1,3]) ti<|tJ aV u.kids [1,3] (fun a _=>([AV.pptr [ay [iV u.act,iV u.item,iV u.n,iV u.kind,aj u.label,aW<|u.head.map aQ,aW<|u.words.map aQ,aW<|u.kids.map aV]] 0 0,nV a],[])) (fun a=>u.kids.all kL=a.all kL) (by rfl) (fun _ _ _ _ _ a _=>Kl 3 23 (ln aV u.kids)<|Kh 0 a<|Ky 0<|rr0 true) fun a _ b _ c d e f g _ i _=>have i:=i.trans<|congrArg some<|aO c;Kl 3 23 (ln aV u.kids)<|Kt 0 g<|Kx 2 i<|Kp 0 (ih c (by exact aN b f)<|by exact f4 _ (aN b f))<|Kn 0 (kL c) (fun _=>Kf 0<|cb<|rr0 false) fun _=>Kl 1 26 (dq a)<|Kf 0<|e sA
mutual
noncomputable def mF:TUnit→Int→Int→Int
  |⟨_,_,_,_,_,_,_,kids⟩,deep,most=>match aC 20 deep with|true=>most+1|false=>mG kids deep most 1
noncomputable def mG:List TUnit→Int→Int→Int→Int
  |[],_,_,n=>n
  |k::r,deep,most,n=>match aC most n with|true=>n|false=>mG r deep most (n+mF k (deep+1) (most-n))
end
theorem PV(u:TUnit)(deep most:Int):mF u deep most=match aC 20 deep with|true=>most+1|false=>mG u.kids deep most 1:=by
  obtain⟨a,b,c,d,e,f,g,h⟩:=u;rw[mF];rfl
mutual
theorem Fx:∀(u:TUnit)(deep most:Int),0≤most→1≤mF u deep most∧mF u deep most≤most+1
  | ⟨_,_,_,_,_,_,_,kids⟩,deep,most,h=>by
    rw[mF]
    split
    · omega
    · exact Fj kids deep most 1 (by omega) (by omega)
theorem Fj:∀(l:List TUnit)(deep most n:Int),1≤n→n≤most+1→1≤mG l deep most n∧mG l deep most n≤most+1
  |[],_,_,n,h1,h2=>by grind[mG]
  | k::r,deep,most,n,h1,h2=>by
    rw[mG]
    split
    · omega
    · rename_i h
      have:=aD h
      have:=Fx k (deep+1) (most-n) (by omega)
      exact Fj r deep most _ (by omega) (by omega)
end
theorem S1:∀(u:TUnit),mb u→∀(deep most:Int),0≤deep→deep≤21→0≤most→most≤2^20→kP 80 [eU u,iV deep,iV most] (iV (mF u deep most)):=by
  refine TUnit.ind fun u ih hf deep most d1 d2 m1 m2=>?_
  obtain⟨f1,f2,f3,f4⟩:=ll.1 hf
  have rr0 b' (h:(mF u deep most)=b':=by rw[PV];simp only[mG,aS,ax,bS, *]):=h;exact bM Tryz.func80<|Ka 3 20 deep (fun _ _=>Kl 1 12 (Le.wr (x:=most+1) eR)<|Kf 0<|li<|rr0<|most+1) fun _ _=>K1 1 (.frz 0 [1,2,3,7,8]) ti<|LN aV u.kids (1:Int) [1,2,3,7,8] (fun a _ b=>([iV deep,iV most,AV.pptr [ay [iV u.act,iV u.item,iV u.n,iV u.kind,aj u.label,aW<|u.head.map aQ,aW<|u.words.map aQ,aW<|u.kids.map aV]] 0 0,iV b,nV a],[])) (fun a b=>(1:Int)≤b∧b≤most+(1:Int)∧mG u.kids deep most (1:Int)=mG a deep most b) oA (fun _ _ a _ _ _ b _=>Kl 3 16 (ln aV u.kids)<|Kh 1 b<|Mh b<|Mh b<|My b<|Kf 2<|li<|rr0 a) fun a _ b c _ d e f g i _ j _=>have j:=j.trans<|congrArg some<|aO d;Kl 3 16 (ln aV u.kids)<|Kt 1 i<|Kt 0 i<|Kt 0 i<|Ku 0 i<|Mn (aC most b) (fun i=>have:=aD i;Kx 3 j<|Kl 2 32 (Le.wr (x:=deep+1) eR)<|Kl 2 35 (Le.wr (x:=most-b) eR)<|Mp (ih d (by exact aN c g) (by exact f4 _ (aN c g)) (deep+1) (most-b) oA oA oA oA)<|have:=Fx d (deep+1) (most-b) oA;Kl 0 37 (Le.wr (x:=b+mF d (deep+1) (most-b)) eR)<|Kl 2 24 (dq a)<|Kf 0<|f (b+mF d (deep+1) (most-b))<|by(refine⟨by omega,by omega,?_⟩;first|rfl|grind[mG])) fun a=>have:=al a;Kf 1<|li<|rr0 b
noncomputable def GP(u:TUnit)(most:Int):Bool:=ax (aC most (mF u 0 most))&&kL u
theorem Uy(u:TUnit)(most:Int)(hf:mb u)(m1:0≤most)(m2:most≤2^20):kP 59 [eU u,iV most] (.bool (GP u most)):=by
  have rr0 b' (h:(GP u most)=b':=by simp only[GP,aS,ax,bS, *]):=h;exact bM Tryz.func59<|Kp 3 (S1 u hf 0 most oA oA m1 m2)<|Kn 2 (aC most<|mF u 0 most) (fun a=>Kt 0 (bo a)<|Mp (Ob u hf)<|MV (bo a)<|Kf 0<|cb<|rr0<|kL u) fun a=>Mh (bw a)<|My (bw a)<|Ky 0<|rr0 false
noncomputable def xn(s:aT):Bool:=ax (aC 100 (.ofNat s.length))
noncomputable def xm(s:PStep):Bool:=ax (aC 100 (.ofNat s.label.length))
noncomputable def yU(x:PItem):Bool:=
  ax (aC 12 (.ofNat x.at_.length))&&ax (aC 12 (.ofNat x.to.length))&&ax (aC 300 (.ofNat x.old.length))&&ax (aC 300 (.ofNat x.new.length))&&ax (aC 100 (.ofNat x.label.length))&&ax (aC 100 (.ofNat x.for_.length))
  &&ax (aC 100 (.ofNat x.start.event.length))&&ax (aC 100 (.ofNat x.event.length))&&ax (aC 2 (.ofNat x.by_.length))&&GP x.unit 30
noncomputable def HU(y:PItem):Bool:=aC 0 (.ofNat y.by_.length)&&aC 0 (.ofNat (gD y.by_ 0).by_.length)
mutual
noncomputable def m7:PItem→Bool
  |⟨k,a,t,w,nn,u,o,n,lb,fo,st,ac,it,dy,ev,by_⟩=>yU ⟨k,a,t,w,nn,u,o,n,lb,fo,st,ac,it,dy,ev,by_⟩&&(o.all xn&&(n.all xn&&(a.all xm&&(t.all xm&&GT by_))))
noncomputable def GT:List PItem→Bool
  |[]=>true
  |u::r=>(ax (HU u)&&m7 u)&&GT r
end
noncomputable def Hh(y:PItem):Bool:=ax (HU y)&&m7 y
theorem GS:∀(l:List PItem),GT l=l.all Hh
  |[]=>by rw[GT];rfl
  |u::r=>by rw[GT,GS r];rfl
theorem D8(x:PItem):m7 x=(yU x&&(x.old.all xn&&(x.new.all xn&&(x.at_.all xm&&(x.to.all xm&&x.by_.all Hh))))):=by
  obtain⟨k,a,t,w,nn,u,o,n,lb,fo,st,ac,it,dy,ev,by_⟩:=x
  rw[m7,GS];rfl
theorem Ub:∀(x:PItem),nb x→kP 41 [eI x] (.bool (m7 x)):=by
  refine PItem.ind fun x ih hf=>?_
  obtain⟨f1,f2,f3,f4,f5,f6,f7⟩:=qA.1 hf
  have hu:kP 59 [eU x.unit,iV 30] (.bool (GP x.unit 30)):=Uy x.unit 30 f6 (by omega) (by omega)
  have rr0 b' (h:(m7 x)=b':=by rw[D8,yU];simp only[Hh,HU,xn,xm,aS,ax,bS, *]):=h;exact bM Tryz.func41<|Kl 4 10 (ln az x.at_)<|Ka 1 12 (Int.ofNat x.at_.length) (fun a _=>Mt a<|Mt a<|Mt a<|MV a<|Ky 17<|rr0 false) fun a _=>Kh 0 a<|Kh 0 a<|Kl 0 15 (ln az x.to)<|Mh a<|Kw 0 a<|Ka 0 12 (Int.ofNat x.to.length) (fun a _=>Mt a<|Mt a<|Mt a<|MV a<|Ky 15<|rr0 false) fun a _=>Kh 0 a<|Kh 0 a<|Kl 0 21 (ln nW x.old)<|Mh a<|Kw 0 a<|Ka 0 300 (Int.ofNat x.old.length) (fun a _=>Mt a<|Mt a<|Mt a<|MV a<|Ky 13<|rr0 false) fun a _=>Kh 0 a<|Kh 0 a<|Kl 0 27 (ln nW x.new)<|Mh a<|Kw 0 a<|Ka 0 300 (Int.ofNat x.new.length) (fun a _=>Mt a<|Mt a<|Mt a<|MV a<|Ky 11<|rr0 false) fun a _=>Kh 0 a<|Kh 0 a<|Kh 0 a<|Kw 0 a<|Ka 0 100 (Int.ofNat<|List.length x.label) (fun a _=>Mt a<|Mt a<|Mt a<|MV a<|Ky 9<|rr0 false) fun a _=>Kh 0 a<|Kh 0 a<|Kh 0 a<|Kw 0 a<|Ka 0 100 (Int.ofNat<|List.length x.for_) (fun a _=>Mt a<|Mt a<|Mt a<|Mt a<|MV a<|Ky 7<|rr0 false) fun a _=>Kh 0 a<|Kh 0 a<|Kh 0 a<|Kh 0 a<|Kw 0 a<|Ka 0 100 (Int.ofNat<|List.length x.start.event) (fun a _=>Mt a<|Mt a<|Mt a<|MV a<|Ky 5<|rr0 false) fun a _=>Kh 0 a<|Kh 0 a<|Kh 0 a<|Kw 0 a<|Ka 0 100 (Int.ofNat<|List.length x.event) (fun a _=>Mt a<|Mt a<|Mt a<|MV a<|Ky 3<|rr0 false) fun a _=>Kh 0 a<|Kh 0 a<|Kl 0 58 (ln NE x.by_)<|Mh a<|Kw 0 a<|Ka 0 2 (Int.ofNat x.by_.length) (fun a _=>Mt a<|Mt a<|Mt a<|MV a<|Ky 1<|rr0 false) fun a _=>Kh 0 a<|Kh 0 a<|Mp hu<|Mh a<|Kw 0 a<|Mn (GP x.unit 30) (fun _=>Ky 0<|rr0 false) fun _=>K1 0 (.frz 0 [1,3]) ti<|tJ nW x.old [1,3] (fun a _=>([AV.pptr [ay [iV x.kind,aW<|x.at_.map az,aW<|x.to.map az,iV x.where_,iV x.nth_,iV x.unit.act,iV x.unit.item,iV x.unit.n,iV x.unit.kind,aj x.unit.label,aW<|x.unit.head.map aQ,aW<|x.unit.words.map aQ,aW<|x.unit.kids.map aV,aW<|x.old.map nW,aW<|x.new.map nW,aj x.label,aj x.for_,iV x.start.kind,iV x.start.day,aj x.start.event,iV x.act,iV x.item,iV x.day,aj x.event,aW<|x.by_.map NE]] 0 0,nV a],[])) (fun a=>x.old.all xn=a.all xn) (by rfl) (fun _ _ _ _ _ a _=>Kl 3 70 (ln nW x.old)<|Kh 0 a<|Mg 0<|tJ nW x.new [1,4] (fun a _=>([AV.pptr [ay [iV x.kind,aW<|x.at_.map az,aW<|x.to.map az,iV x.where_,iV x.nth_,iV x.unit.act,iV x.unit.item,iV x.unit.n,iV x.unit.kind,aj x.unit.label,aW<|x.unit.head.map aQ,aW<|x.unit.words.map aQ,aW<|x.unit.kids.map aV,aW<|x.old.map nW,aW<|x.new.map nW,aj x.label,aj x.for_,iV x.start.kind,iV x.start.day,aj x.start.event,iV x.act,iV x.item,iV x.day,aj x.event,aW<|x.by_.map NE]] 0 0,nV a],[])) (fun a=>x.new.all xn=a.all xn) (by rfl) (fun _ _ _ _ _ a _=>Kl 3 84 (ln nW x.new)<|Kh 0 a<|Mg 0<|tJ az x.at_ [1,5] (fun a _=>([AV.pptr [ay [iV x.kind,aW<|x.at_.map az,aW<|x.to.map az,iV x.where_,iV x.nth_,iV x.unit.act,iV x.unit.item,iV x.unit.n,iV x.unit.kind,aj x.unit.label,aW<|x.unit.head.map aQ,aW<|x.unit.words.map aQ,aW<|x.unit.kids.map aV,aW<|x.old.map nW,aW<|x.new.map nW,aj x.label,aj x.for_,iV x.start.kind,iV x.start.day,aj x.start.event,iV x.act,iV x.item,iV x.day,aj x.event,aW<|x.by_.map NE]] 0 0,nV a],[])) (fun a=>x.at_.all xm=a.all xm) (by rfl) (fun _ _ _ _ _ a _=>Kl 3 98 (ln az x.at_)<|Kh 0 a<|Mg 0<|tJ az x.to [1,6] (fun a _=>([AV.pptr [ay [iV x.kind,aW<|x.at_.map az,aW<|x.to.map az,iV x.where_,iV x.nth_,iV x.unit.act,iV x.unit.item,iV x.unit.n,iV x.unit.kind,aj x.unit.label,aW<|x.unit.head.map aQ,aW<|x.unit.words.map aQ,aW<|x.unit.kids.map aV,aW<|x.old.map nW,aW<|x.new.map nW,aj x.label,aj x.for_,iV x.start.kind,iV x.start.day,aj x.start.event,iV x.act,iV x.item,iV x.day,aj x.event,aW<|x.by_.map NE]] 0 0,nV a],[])) (fun a=>x.to.all xm=a.all xm) (by rfl) (fun _ _ _ _ _ a _=>Kl 3 113 (ln az x.to)<|Kh 0 a<|Mg 0<|tJ NE x.by_ [1,7] (fun a _=>([AV.pptr [ay [iV x.kind,aW<|x.at_.map az,aW<|x.to.map az,iV x.where_,iV x.nth_,iV x.unit.act,iV x.unit.item,iV x.unit.n,iV x.unit.kind,aj x.unit.label,aW<|x.unit.head.map aQ,aW<|x.unit.words.map aQ,aW<|x.unit.kids.map aV,aW<|x.old.map nW,aW<|x.new.map nW,aj x.label,aj x.for_,iV x.start.kind,iV x.start.day,aj x.start.event,iV x.act,iV x.item,iV x.day,aj x.event,aW<|x.by_.map NE]] 0 0,nV a],[])) (fun a=>x.by_.all Hh=a.all Hh) (by rfl) (fun _ _ _ _ _ a _=>Kl 3 128 (ln NE x.by_)<|Kh 0 a<|Ky 0<|rr0 true) fun a _ b _ c d e f g _ i _=>have i:=i.trans<|congrArg some<|eb c;Kl 3 128 (ln NE x.by_)<|Kt 0 g<|Kx 2 i<|Kl 2 138 (ln NE c.by_)<|Ka 1 0 (Int.ofNat c.by_.length) (fun g _=>Kt 0 g<|Kt 0 g<|Kt 0 g<|Mx i<|Mt g<|Kt 0 g<|Kt 0 g<|Mx ((aI NE (sA:0<(c.by_).length)).trans<|congrArg some<|eb _)<|Mt g<|Kt 0 g<|Kt 0 g<|Kl 0 150 (ln NE (gD c.by_ 0).by_)<|Mt g<|Ku 0 g<|Ka 0 0 (Int.ofNat (gD c.by_ 0).by_.length) (fun a _=>Mt a<|Mt a<|Mt a<|Mt a<|Mt a<|Mt a<|MV a<|Ky 1<|rr0 false) fun g _=>Kh 0 g<|Kh 0 g<|Kh 0 g<|Mx i<|Mh g<|Kh 0 g<|Mp (ih c (by exact aN b f)<|by exact f7 _ (aN b f))<|Mh g<|Kw 0 g<|Mn (m7 c) (fun _=>Kf 0<|cb<|rr0 false) fun _=>Kl 1 131 (dq a)<|Kf 0<|e<|by simp_all[Hh,HU]) fun g _=>Mh g<|Mh g<|Mh g<|Mh g<|Mh g<|Mh g<|Mh g<|Mh g<|Mh g<|Mh g<|My g<|Kx 3 i<|Kp 0 (ih c (by exact aN b f)<|by exact f7 _ (aN b f))<|Kn 1 (m7 c) (fun _=>Kf 0<|cb<|rr0 false) fun _=>Kl 1 131 (dq a)<|Kf 0<|e<|by simp_all[Hh,HU]) fun a _ _ _ b c d _ e _ f _=>Kl 3 113 (ln az x.to)<|Kt 0 e<|Kx 2 f<|Ka 3 100 (Int.ofNat<|List.length b.label) (fun _ _=>Ky 0<|rr0 false) fun _ _=>Kl 1 116 (dq a)<|Kf 0<|d<|by simp_all[xm]) fun a _ _ _ b c d _ e _ f _=>Kl 3 98 (ln az x.at_)<|Kt 0 e<|Kx 2 f<|Ka 3 100 (Int.ofNat<|List.length b.label) (fun _ _=>Ky 0<|rr0 false) fun _ _=>Kl 1 101 (dq a)<|Kf 0<|d<|by simp_all[xm]) fun a _ _ _ b c d _ e _ f _=>Kl 3 84 (ln nW x.new)<|Kt 0 e<|Kx 2 f<|Ka 2 100 (Int.ofNat<|List.length b) (fun _ _=>Ky 0<|rr0 false) fun _ _=>Kl 1 87 (dq a)<|Kf 0<|d<|by simp_all[xn]) fun a _ _ _ b c d _ e _ f _=>Kl 3 70 (ln nW x.old)<|Kt 0 e<|Kx 2 f<|Ka 2 100 (Int.ofNat<|List.length b) (fun _ _=>Ky 0<|rr0 false) fun _ _=>Kl 1 73 (dq a)<|Kf 0<|d<|by simp_all[xn]
noncomputable def BX(most n:Int)(a:PAct):Bool:=aC most (n+Int.ofNat a.items.length)||(aC 100 (Int.ofNat a.title.length)||(aC 60 (Int.ofNat a.start.event.length)||ax (a.items.all m7)))
noncomputable def mW(most:Int):List PAct→Int→Option Int
  |[],n=>some n
  |a::r,n=>match BX most n a with|true=>none|false=>mW most r (n+Int.ofNat a.items.length)
noncomputable def vO(g:PGaz):Bool:=aC 8 (Int.ofNat g.acts.length)||aC 60 (Int.ofNat g.prior.length)
noncomputable def ug(most:Int):List PGaz→Int→Bool
  |[],_=>true
  |g::r,n=>match vO g with|true=>false|false=>match mW most g.acts n with|none=>false|some m=>ug most r m
noncomputable def Nt(gs:List PGaz)(most:Int):Bool:=match aC 8 (Int.ofNat gs.length)with|true=>false|false=>ug most gs 0
theorem Uc(gs:List PGaz)(most:Int)(hf:og gs)(m1:0≤most)(m2:most≤2^20):kP 25 [.ls (gs.map ap),iV most] (.bool (Nt gs most)):=by
  obtain⟨f0,f1⟩:=hf
  have fa:∀g,g∈gs→∀a,a∈g.acts→a.items.length<2^60:=fun g hg a ha=>((f1 g hg).2 a ha).1
  have fb:∀g,g∈gs→g.acts.length<2^60:=fun g hg=>(f1 g hg).1
  have rr0 b' (h:(Nt gs most)=b':=by simp only[Nt,ug,vO,mW,BX,aS,ax,bS, *]):=h;exact bM Tryz.func25<|Kl 2 11 (ln ap gs)<|Ka 0 8 (Int.ofNat gs.length) (fun _ _=>Ky 0<|rr0 false) fun _ _=>Mg 1<|LN ap gs (0:Int) [0,1,5,6] (fun b _ c=>([aW<|gs.map ap,iV most,iV c,nV b],[])) (fun b c=>(0:Int)≤c∧c≤most∧ug most gs (0:Int)=ug most b c) (by(refine⟨by omega,by omega,?_⟩;first|rfl|(simp only[ug,vO,mW,aS,ax,bS, *]))) (fun _ _ _ _ _ _ b _=>Kl 2 15 (ln ap gs)<|Kh 0 b<|Ky 0<|rr0 true) fun b _ c d _ e f i j k _ l m=>Kl 2 15 (ln ap gs)<|Kt 0 k<|Kx 1 l<|Kl 2 24 (ln aa e.acts)<|Ka 1 8 (Int.ofNat e.acts.length) (fun b _=>Mt b<|Mt b<|Mt b<|Mt b<|Mt b<|Mt b<|MV b<|Ky 1<|rr0 false) fun k _=>Kh 0 k<|Kh 0 k<|Mx l<|Mh k<|Kh 0 k<|Kh 0 k<|Kh 0 k<|Kw 0 k<|Mb (aC 60<|Int.ofNat<|List.length e.prior) (fun b=>have:=al b;Ky 0<|rr0 false) fun k=>have:=aD k;Mg 0<|LN aa e.acts c [0,1,5,6,7] (fun c _ d=>([aW<|gs.map ap,iV most,iV d,nV b,nV c],[])) (fun b d=>(0:Int)≤d∧d≤most∧mW most e.acts c=mW most b d) (by(exact⟨m.1,m.2.1,rfl⟩)) (fun _ _ c _ _ _ d _=>Kx 2 l<|Kl 2 41 (ln aa e.acts)<|Kh 0 d<|Kl 1 18 (dq b)<|Kf 0<|i c<|by(refine⟨by omega,by omega,?_⟩;first|rfl|(simp only[ug,vO,mW,aS,ax,bS, *]))) fun f _ i k _ m n o p q _ r _=>have:=fa e (aN d j) m<|aN k p;have:=fb e<|aN d j;Kx 2 l<|Kl 2 41 (ln aa e.acts)<|Kt 0 q<|Kx 1 l<|Kx 2 r<|Kl 6 56 (ln NE m.items)<|Kl 0 57 (Le.wr (x:=i+Int.ofNat m.items.length) eR)<|Ka 4 most (i+Int.ofNat m.items.length) (fun b _=>Mt b<|Mt b<|Mt b<|MV b<|Ky 3<|rr0 false) fun l _=>Kh 0 l<|Kh 0 l<|Kh 0 l<|Kw 0 l<|Ka 0 100 (Int.ofNat<|List.length m.title) (fun b _=>Mt b<|Mt b<|Mt b<|Mt b<|MV b<|Ky 1<|rr0 false) fun l _=>Kh 0 l<|Kh 0 l<|Kh 0 l<|Kh 0 l<|Kw 0 l<|Mb (aC 60<|Int.ofNat<|List.length m.start.event) (fun b=>have:=al b;Ky 0<|rr0 false) fun l=>have:=aD l;K1 0 (.frz 0 [0,1,5,6,7,8,9]) ti<|tJ NE m.items [0,1,5,6,7,8,9] (fun c _=>([aW<|gs.map ap,iV most,iV<|i+Int.ofNat m.items.length,nV b,nV f,AV.pptr [ay [iV m.number,aj m.title,iV m.day,iV m.start.kind,iV m.start.day,aj m.start.event,aW<|m.items.map NE]] 0 0,nV c],[])) (fun b=>m.items.all m7=b.all m7) (by rfl) (fun _ _ _ _ _ b _=>Kl 3 77 (ln NE m.items)<|Kh 0 b<|Kl 1 44 (dq f)<|Kf 0<|o (i+Int.ofNat m.items.length)<|by(refine⟨by(simp only[oN]at *;omega),by assumption,?_⟩;simp only[mW,BX,aS,ax,bS, *])) fun b _ c _ e f i l n _ o _=>have o:=o.trans<|congrArg some<|eb e;Kl 3 77 (ln NE m.items)<|Kt 0 n<|Kx 2 o<|Kp 0 (Ub e<|by first|exact((f1 _ (aN d j)).2 _ (aN k p)).2 _ (aN c l))<|Kn 0 (m7 e) (fun _=>Kf 0<|cb<|rr0 false) fun _=>Kl 1 80 (dq b)<|Kf 0<|i<|by simp only[aS,ax,bS, *]at *
noncomputable def GR(gs:List PGaz)(p:aT):Bool:=Nt gs 24&&ax (aC 60 (Int.ofNat p.length))
theorem Ua(gs:List PGaz)(p:aT)(hf:og gs):kP 14 [.ls (gs.map ap),.str p] (.bool (GR gs p)):=by
  have rr0 b' (h:(GR gs p)=b':=by simp only[GR,aS,ax,bS, *]):=h;exact bM Tryz.func14<|Kp 1 (Uc gs 24 hf oA oA)<|Kb 0 (Nt gs 24) (fun a=>Kt 0 a<|Kt 0 a<|Ku 0 a<|Kf 0<|cb<|rr0<|ax<|aC 60<|Int.ofNat<|List.length p) fun a=>Mh a<|Mh a<|My a<|Ky 0<|rr0 false
theorem ifB(l:aT)(g:Nat)(p:UInt8→Bool)(hp:∀s,s∈l→kP g [.int .u8 (.ofNat s.toNat)] (.bool (p s)))(hl:l.length<2^40):kP 284 [.ls (l.map nH),.func (.func g) [] []] (iV (dE p l 0)):=by
  have rr0 b' (h:(dE p l 0)=b':=by first|exact my zd0 hr0 hj0 ‹_› |exact hj0):=h;exact bM Tryz.func284<|Kl 2 7 (ln nH l)<|Mg 0<|tJ nH l [0,1,7,8] (fun a _=>([aW<|l.map nH,bU (bY g) [] [],nV<|List.length l,nV a],[])) (fun a=>dE p l (0:Nat)=dE p a (List.length l-a.length)) sA (fun _ _ zd0 _ hr0 a hj0=>Kh 0 a<|Kf 0<|li<|rr0 (-1)) fun a _ zd0 _ b c d hr0 e _ f hj0=>Kt 0 e<|Kx 4 f<|Kp 0 (hp b<|by exact aN zd0 hr0)<|Mb (p b) (fun _=>Kf 1<|li<|rr0<|Int.ofNat a) fun _=>Kl 0 18 (dq a)<|Kf 0<|d<|by exact ke zd0 hr0 hj0 (by omega)
theorem cfB(l:aT)(g:Nat)(p:UInt8→Bool)(hp:∀s,s∈l→kP g [.int .u8 (.ofNat s.toNat)] (.bool (p s)))(hl:l.length<2^40):kP 272 [.ls (l.map nH),.func (.func g) [] []] (.bool (l.any p)):=by
  have h:=ifB l g p hp hl
  have rr0 b' (h:(List.any l p)=b':=by(rw[lg];simp only[aS,ax,bS,rL])):=h;exact bM Tryz.func272<|Kp 2 h<|Kf 1<|cb<|rr0<|ax<|aC (dE p l 0) 0
theorem Oc(c:UInt8):kP 271 [.int .u8 (.ofNat c.toNat)] (.bool (ax (Qn 33 126 c))):=by
  have rr0 b' (h:(ax (Qn 33 126 c))=b':=by(simp only[Qn,aS,ax,bS,rL, *])):=h;exact bM Tryz.func271<|Kb 3 (aC (Int.ofNat c.toNat) 33) (fun a=>Mt a<|MV a<|Ky 0<|rr0 true) fun a=>Kh 0 a<|Kw 0 a<|Kf 0<|cb<|rr0<|aC 126<|Int.ofNat c.toNat
theorem Ss(s:aT)(hs:s.length≤2^39):kP 244 [.str s] (.bool (rO s)):=by
  have h:=cfB s 271 _ (fun c _=>Oc c) (by omega)
  have rr0 b' (h:(rO s)=b':=by first|(simp only[rO,aS,ax,bS, *];done)|(rw[rO,Rk,List.all_eq_not_any_not];simp only[DG,aS,ax,bS, *]at *)):=h;let q:=List.map nH s;exact bM Tryz.func244<|Kn 4 (eX s (ByteArray.mk #[]).data.toList) (fun a=>Kt 0 (bo a)<|Kt 0 (bo a)<|Ku 0 (bo a)<|Kn 0 (aC 24<|Int.ofNat<|List.length s) (fun a=>Kt 0 (bo a)<|Mv (UE (s:=s) (H:=av []) (oA:(s).length≤2^40))<|Mt (bo a)<|Kt 0 (bo a)<|Mp (aR.onArgs (.cons (eT q _<|aX Vm s)<|lc .nil) h:kP 272 [i7 q false,bU (bY 271) [] []] _)<|Mt (bo a)<|Ku 0 (bo a)<|Kf 0<|cb<|rr0<|ax<|List.any s fun a=>ax<|Qn 33 126 a) fun a=>Mh (bw a)<|Mh (bw a)<|Mh (bw a)<|Mh (bw a)<|My (bw a)<|Ky 0<|rr0 false) fun a=>Mh (bw a)<|Mh (bw a)<|My (bw a)<|Ky 2<|rr0 false
theorem ifS(l:List aT)(g:Nat)(p:aT→Bool)(hp:∀s,s∈l→kP g [.str s] (.bool (p s)))(hl:l.length<2^40):kP 270 [.ls (l.map nW),.func (.func g) [] []] (iV (dE p l 0)):=by
  have rr0 b' (h:(dE p l 0)=b':=by first|exact my zd0 hr0 hj0 ‹_› |exact hj0):=h;exact bM Tryz.func270<|Kl 2 7 (ln nW l)<|Mg 0<|tJ nW l [0,1,7,8] (fun a _=>([aW<|l.map nW,bU (bY g) [] [],nV l.length,nV a],[])) (fun a=>dE p l (0:Nat)=dE p a (l.length-a.length)) sA (fun _ _ zd0 _ hr0 a hj0=>Kh 0 a<|Kf 0<|li<|rr0 (-1)) fun a _ zd0 _ b c d hr0 e _ f hj0=>Kt 0 e<|Kx 4 f<|Kp 0 (hp b<|by exact aN zd0 hr0)<|Mb (p b) (fun _=>Kf 1<|li<|rr0<|Int.ofNat a) fun _=>Kl 0 18 (dq a)<|Kf 0<|d<|by exact ke zd0 hr0 hj0 (by omega)
theorem cfS(l:List aT)(g:Nat)(p:aT→Bool)(hp:∀s,s∈l→kP g [.str s] (.bool (p s)))(hl:l.length<2^40):kP 242 [.ls (l.map nW),.func (.func g) [] []] (.bool (l.any p)):=by
  have h:=ifS l g p hp hl
  have rr0 b' (h:(l.any p)=b':=by(rw[lg];simp only[aS,ax,bS,rL])):=h;exact bM Tryz.func242<|Kp 2 h<|Kf 1<|cb<|rr0<|ax<|aC (dE p l 0) 0
theorem L4(s:aT)(hs:s.length≤2^39):kP 243 [.str s] (.bool (ax (rO s))):=by
  exact bM Tryz.func243<|Kp 1 (Ss s hs)<|Kf 1<|bp<|eS<|ax<|rO s
theorem KU(l:List aT)(hl:l.length<2^40)(hs:∀s,s∈l→s.length≤2^39):kP 216 [.ls (l.map nW)] (.bool (qb l)):=by
  have h:=cfS l 243 _ (fun s m=>L4 s (hs s m)) hl
  have rr0 b' (h:(qb l)=b':=by first|(simp only[qb,aS,ax,bS, *];done)|(rw[qb,List.all_eq_not_any_not];simp only[aS,ax,bS, *])):=h;exact bM Tryz.func216<|Kl 2 4 (ln nW l)<|Kn 1 (aC 256<|Int.ofNat l.length) (fun a=>Kt 0 (bo a)<|Mp h<|Mt (bo a)<|Ku 0 (bo a)<|Kf 0<|cb<|rr0<|ax<|l.any fun a=>ax<|rO a) fun a=>Mh (bw a)<|Mh (bw a)<|My (bw a)<|Ky 0<|rr0 false
theorem Pm(r:Int):kP 246 [.int .i32 r] (.bool (aC r 48||aC 57 r)):=by
  have rr0 b' (h:(aC r 48||aC 57 r)=b':=by(simp only[aS,ax,bS, *])):=h;exact bM Tryz.func246<|Kb 3 (aC r 48) (fun a=>Mt a<|MV a<|Ky 0<|rr0 true) fun a=>Kh 0 a<|Kw 0 a<|Kf 0<|cb<|rr0<|aC 57 r
theorem Tc(r:Int):kP 218 [.int .i32 r] (.bool (aC r 65||aC 90 r)):=by
  have rr0 b' (h:(aC r 65||aC 90 r)=b':=by(simp only[aS,ax,bS, *])):=h;exact bM Tryz.func218<|Kb 3 (aC r 65) (fun a=>Mt a<|MV a<|Ky 0<|rr0 true) fun a=>Kh 0 a<|Kw 0 a<|Kf 0<|cb<|rr0<|aC 90 r
theorem HD(s:PStep):kP 186 [az s] (.bool (ah s.kind 0&&eX s.label [])):=by
  have rr0 b' (h:(ah s.kind 0&&eX s.label [])=b':=by(simp only[aS,ax,bS, *];first|done|rfl)):=h;exact bM Tryz.func186<|Kb 5 (ah s.kind 0) (fun a=>Kt 0 a<|Kt 0 a<|Ku 0 a<|Kf 0<|cb<|rr0<|eX s.label (ByteArray.mk #[]).data.toList) fun a=>Mh a<|Mh a<|My a<|Ky 0<|rr0 false
theorem vU(n a b:Int):kP 182 [iV n,iV a,iV b] (.bool (ax (aC n a)&&ax (aC b n))):=by
  have rr0 b' (h:(ax (aC n a)&&ax (aC b n))=b':=by(simp only[aS,ax,bS, *])):=h;exact bM Tryz.func182<|Kn 4 (aC n a) (fun c=>Kt 0 (bo c)<|Kt 0 (bo c)<|Ku 0 (bo c)<|Kf 0<|cb<|rr0<|ax<|aC b n) fun c=>Mh (bw c)<|Mh (bw c)<|My (bw c)<|Ky 0<|rr0 false
theorem Qs(s:aT):kP 245 [.str s,.func (.func 246) [] []] (iV (bif Nat.beq (ed kn s) s.length then -1 else Int.ofNat (ed kn s))):=
  zS ie (Go.Proofs.enters_of Go.Proofs.Tryz.lidxf.f15 (by kernel_rfl) rfl) (Go.Proofs.enters_of Tryz.func246 (by kernel_rfl) rfl)
    (fun s w hp=>Go.Proofs.Any.strings_IndexFunc_grows Go.Proofs.Tryz.lidxf 246 #[] (Go.Proofs.enters_of Tryz.func246 (by kernel_rfl) rfl) _ s w hp) Pm (fun _=>rfl) (Ha (lo:=48) (hi:=57) (by omega)) s
theorem Qt(s:aT)(h:By (Nat.beq (ed kn s) s.length) true):kP 245 [.str s,.func (.func 246) [] []] (iV (-1)):=by
  have:=Qs s
  simp_all
theorem T8(s:aT)(h:By (Nat.beq (ed kn s) s.length) false):kP 245 [.str s,.func (.func 246) [] []] (nV (ed kn s)):=by
  have:=Qs s
  grind
theorem ZI(s:aT):kP 219 [.str s,.func (.func 218) [] []] (.bool (ax (s.all XU))):=
  uL ie (Go.Proofs.enters_of Go.Proofs.Tryz.lconf.f17 (by kernel_rfl) rfl) (Go.Proofs.enters_of Tryz.func218 (by kernel_rfl) rfl)
    (fun s w hp=>Go.Proofs.Any.strings_ContainsFunc_grows Go.Proofs.Tryz.lconf 218 #[] (Go.Proofs.enters_of Tryz.func218 (by kernel_rfl) rfl) _ s w hp) Tc (fun _=>rfl) (Ha (lo:=65) (hi:=90) (by omega)) s
theorem MN(s:aT)(hs:s.length≤2^39):kP 217 [.str s] (.tuple [.str (s.take (ed kn s)),.str (s.drop (ed kn s))]):=by
  have hl:=KW (p:=kn) (s:=s)
  have rr0 b' (h:(s.take (ed kn s))=b':=by(rw[pu h0];simp)):=h;have rr1 b' (h:(s.drop (ed kn s))=b':=by(rw[pu h0];simp)):=h;let q:=AHeap.mk 1000000 Tr.nil;exact bM Tryz.func217<|Ks 2 ((ed kn s).beq<|List.length s) (fun h0=>Mp (Qt s h0)<|Kf 6<|cH<|.cons (Le.str<|rr0 s)<|.cons (Le.str<|rr1 []) .nil) fun h0=>Mp (T8 s h0)<|Kv 5 (VT (s:=s) (n:=ed kn s) (k:=IntKind.i64) (H:=q) oA)<|Kv 1 (VS (s:=s) (l:=ed kn s) (k:=IntKind.i64) (H:=q) oA)<|Kf 1<|bp<|b9 [aj<|s.take<|ed kn s,aj<|s.drop<|ed kn s]
theorem ux(s:aT)(hs:s.length≤2^39):kP 177 [.str s] (.bool (ky s)):=by
  have hd:(s.drop (ed kn s)).length≤2^39:=by grind
  have rr0 b' (h:(ky s)=b':=by first|(simp only[ky,aS,ax,bS,rL, *];done)|(simp only[ky,aS,ax,bS,rL, *];rfl)|(unfold ky;simp only[h0,h1,h2];rfl)):=h;exact bM Tryz.func177<|Kp 1 (MN s hs)<|Kd 9 (Int.ofNat (s.take<|ed kn s).length) 1 (fun h0 _=>Kt 0 (bo h0)<|Kt 0 (bo h0)<|Ku 0 (bo h0)<|Kd 0 4 (Int.ofNat (s.take<|ed kn s).length) (fun h1 _=>Kt 0 (bo h1)<|M1 (.chr<|gD (s.take<|ed kn s) 0) (zy (gR:0<(s.take (ed kn s)).length))<|Mt (bo h1)<|Ku 0 (bo h1)<|Kc 0 (Int.ofNat (gD (s.take<|ed kn s) 0).toNat) 48 (fun h2 _=>Kt 0 (bo h2)<|Kt 0 (bo h2)<|Ku 0 (bo h2)<|Kd 0 3 (Int.ofNat (s.drop<|ed kn s).length) (fun a _=>Kt 0 (bo a)<|Kt 0 (bo a)<|Mp (ZI<|s.drop<|ed kn s)<|Mt (bo a)<|Ku 0 (bo a)<|Kf 0<|cb<|rr0<|ax<|ax<|(s.drop<|ed kn s).all XU) fun a _=>Mh (bw a)<|Mh (bw a)<|Mh (bw a)<|My (bw a)<|Ky 0<|rr0 false) fun h2 _=>Mh (bw h2)<|Mh (bw h2)<|My (bw h2)<|Ky 2<|rr0 false) fun h1 _=>Mh (bw h1)<|Mh (bw h1)<|My (bw h1)<|Ky 4<|rr0 false) fun h0 _=>Mh (bw h0)<|Mh (bw h0)<|My (bw h0)<|Ky 6<|rr0 false
theorem vW(p:List PStep)(hl:p.length<2^40)(hs:∀s,s∈p→s.label.length≤2^39):kP 132 [.ls (p.map az)] (.bool (kI p)):=by
  have rr0 b' (h:(kI p)=b':=by first|(rw[kI,hj0,U6];rfl)|(rw[kI,Em zd0 hr0 hj0];simp only[nw,tg,‹ah (Int.ofNat zi0) 0=_›,cond_true,cond_false];simp only[DG,aS,ax,bS, *];first|done|rfl)):=h;exact bM Tryz.func132<|Kl 2 6 (ln az p)<|Mg 0<|tJ az p [0,5,6,7] (fun a _=>([aW<|p.map az,aW<|p.map az,nV p.length,nV a],[])) (fun a=>OQ p=HC p a) (by(exact N9)) (fun zi0 _ zd0 _ hr0 a hj0=>Kh 0 a<|Kl 1 34 (ln az p)<|Kf 1<|cb<|rr0<|ax<|aC 9<|Int.ofNat p.length) fun zi0 _ zd0 _ a b c hr0 d _ e hj0=>Kt 0 d<|Kx 0 e<|Kj 6 (Int.ofNat zi0) 0 (fun d _=>Kt 0 d<|Mp (HD a)<|MV d<|Mb (ah a.kind 0&&eX a.label []) (fun _=>Kl 0 32 (dq zi0)<|K1 0 (.frz 0 [0,5,6,7]) ti<|Mf<|c<|by(rw[Em zd0 hr0 hj0];simp only[nw,tg,‹ah (Int.ofNat zi0) 0=_›,cond_true,cond_false];simp only[DG,aS,ax,bS, *];first|done|rfl)) fun _=>Kd 3 0 a.kind (fun a _=>Mt (bo a)<|Mt (bo a)<|MV (bo a)<|Ky 3<|rr0 false) fun d _=>Kh 0 (bw d)<|Kh 0 (bw d)<|Kw 0 (bw d)<|Ka 0 7 a.kind (fun a _=>Mt a<|Mt a<|Mt a<|MV a<|Ky 1<|rr0 false) fun d _=>Kh 0 d<|Kh 0 d<|Mp (ux a.label<|by exact hs _ (aN zd0 hr0))<|Mh d<|Kw 0 d<|Mn (ky a.label) (fun _=>Kf 0<|cb<|rr0 false) fun _=>Kl 0 32 (dq zi0)<|K1 0 (.frz 0 [0,5,6,7]) ti<|Mf<|c<|by(rw[Em zd0 hr0 hj0];simp only[nw,tg,‹ah (Int.ofNat zi0) 0=_›,cond_true,cond_false];simp only[DG,aS,ax,bS, *];first|done|rfl)) fun d _=>Mh d<|My d<|Kd 4 0 a.kind (fun a _=>Mt (bo a)<|Mt (bo a)<|MV (bo a)<|Ky 3<|rr0 false) fun d _=>Kh 0 (bw d)<|Kh 0 (bw d)<|Kw 0 (bw d)<|Ka 0 7 a.kind (fun a _=>Mt a<|Mt a<|Mt a<|MV a<|Ky 1<|rr0 false) fun d _=>Kh 0 d<|Kh 0 d<|Mp (ux a.label<|by exact hs _ (aN zd0 hr0))<|Mh d<|Kw 0 d<|Mn (ky a.label) (fun _=>Kf 0<|cb<|rr0 false) fun _=>Kl 0 32 (dq zi0)<|K1 0 (.frz 0 [0,5,6,7]) ti<|Mf<|c<|by(rw[Em zd0 hr0 hj0];simp only[nw,tg,‹ah (Int.ofNat zi0) 0=_›,cond_true,cond_false];simp only[DG,aS,ax,bS, *];first|done|rfl)
theorem T7(l:List Int)(v:Int)(hl:l.length<2^40):kP 259 [.ls (l.map ak),iV v] (iV (dE (ah v) l 0)):=by
  have rr0 b' (h:(dE (ah v) l 0)=b':=by first|exact my zd0 hr0 hj0 ‹_› |exact hj0):=h;exact bM Tryz.func259<|Kl 2 7 (ln ak l)<|Mg 0<|tJ ak l [0,1,7,8] (fun a _=>([aW<|l.map ak,iV v,nV l.length,nV a],[])) (fun a=>dE (ah v) l (0:Nat)=dE (ah v) a (l.length-a.length)) sA (fun _ _ zd0 _ hr0 a hj0=>Kh 0 a<|Kf 0<|li<|rr0 (-1)) fun a _ zd0 _ b c d hr0 e _ f hj0=>Kt 0 e<|Kx 4 f<|Kj 1 v b (fun _ _=>Kf 1<|li<|rr0<|Int.ofNat a) fun _ _=>Kl 0 18 (dq a)<|Kf 0<|d<|by exact ke zd0 hr0 hj0 (by omega)
theorem rh(l:List Int)(v:Int)(hl:l.length<2^40):kP 232 [.ls (l.map ak),iV v] (.bool (l.any (ah v))):=by
  have h:=T7 l v hl
  have rr0 b' (h:(l.any (ah v))=b':=by(rw[lg];simp only[aS,ax,bS,rL])):=h;exact bM Tryz.func232<|Kp 2 h<|Kf 1<|cb<|rr0<|ax<|aC (dE (ah v) l 0) 0
theorem Qr(v:Int):kP 259 [.nils,iV v] (iV (-1)):=by
  let q:=[ab,iV v,iV 0,iV 0];exact bM Tryz.func259<|Mg 3<|ZJ [0,1,7,8] (q,[]) True 0 ti fun _ _=>Kf 2<|bp<|iV (-1)
theorem Hk(v:Int):kP 232 [.nils,iV v] (.bool false):=by
  have h:=Qr v
  exact bM Tryz.func232<|Kp 2 h<|Kf 1<|bp<|eS false
theorem kn0:kP 279 [iV 0] (.str (dX 0)):=by
  exact wk Tryz.func279 (.go 11 .fin)<|bp<|aj [98,111,111,107]
theorem kn1:kP 279 [iV 1] (.str (dX 1)):=by
  exact wk Tryz.func279 (.go 11 .fin)<|bp<|aj [112,97,114,116]
theorem kn2:kP 279 [iV 2] (.str (dX 2)):=by
  exact wk Tryz.func279 (.go 11 .fin)<|bp<|aj [115,101,99,116,105,111,110]
theorem kn3:kP 279 [iV 3] (.str (dX 3)):=by
  exact wk Tryz.func279 (.go 11 .fin)<|bp<|aj [112,97,114,97,103,114,97,112,104]
theorem kn4:kP 279 [iV 4] (.str (dX 4)):=by
  exact wk Tryz.func279 (.go 11 .fin)<|bp<|aj [116,97,98,108,101]
theorem kn5:kP 279 [iV 5] (.str (dX 5)):=by
  exact wk Tryz.func279 (.go 11 .fin)<|bp<|aj [114,111,119]
theorem kn6:kP 279 [iV 6] (.str (dX 6)):=by
  exact wk Tryz.func279 (.go 11 .fin)<|bp<|aj [99,101,108,108]
theorem kn7:kP 279 [iV 7] (.str (dX 7)):=by
  exact wk Tryz.func279 (.go 11 .fin)<|bp<|aj [110,111,116,101]
theorem knX(k:Int)(h:k<0∨7<k):kP 279 [iV k] (.str (dX k)):=by
  rw[IG h]
  have c:aC k 0=true∨(aC k 0=false∧aC k 8=false):=by
    grind[kj,kw]
  rcases c with c|⟨c,d⟩
  · exact bM Tryz.func279<|Kt 3 c<|Mt c<|MV c<|Kf 1<|bp<|aj []
  · exact bM Tryz.func279<|Kh 3 c<|Kh 0 c<|Kw 0 c<|Mt (bo d)<|Kf 0<|bp<|aj []
theorem wO(k:Int):kP 279 [iV k] (.str (dX k)):=by
  by_cases h:k<0∨7<k
  · grind[knX]
  · grind[kn0,kn1,kn2,kn3,kn4,kn5,kn6,kn7]
theorem ccX(p k:Int)(h:p<0∨7<p):kP 198 [iV p,iV k] (.bool (jk p k)):=by
  unfold jk
  rw[H6 h]
  have c:aC p 0=true∨(aC p 0=false∧aC p 8=false):=by
    grind[kj,kw]
  rcases c with c|⟨c,d⟩
  · exact bM Tryz.func198<|Kh 3 (bw c)<|Mh (bw c)<|My (bw c)<|Kf 2<|bp<|eS false
  · exact bM Tryz.func198<|Kt 3 (bo c)<|Kt 0 (bo c)<|Ku 0 (bo c)<|Kh 0 d<|Mh d<|Mh d<|Mh d<|Mh d<|My d<|Kf 0<|bp<|eS false
theorem cc0(k:Int):kP 198 [iV 0,iV k] (.bool (jk 0 k)):=by
  have h:=rh [1,2] k (by grind)
  let q:=[iV 1,iV 2];exact bM Tryz.func198<|Kp 11 (aR.onArgs (.cons (eT q _<|by rfl)<|lc .nil) h:kP 232 [i7 q false,iV k] _)<|Kf 1<|bp<|eS<|[1,2].any<|ah k
theorem cc1(k:Int):kP 198 [iV 1,iV k] (.bool (jk 1 k)):=by
  have h:=rh [2] k (by grind)
  let q:=[iV 2];exact bM Tryz.func198<|Kp 11 (aR.onArgs (.cons (eT q _<|by rfl)<|lc .nil) h:kP 232 [i7 q false,iV k] _)<|Kf 1<|bp<|eS<|[2].any<|ah k
theorem cc2(k:Int):kP 198 [iV 2,iV k] (.bool (jk 2 k)):=by
  have h:=rh [3,4,7] k (by grind)
  let q:=[iV 3,iV 4,iV 7];exact bM Tryz.func198<|Kp 11 (aR.onArgs (.cons (eT q _<|by rfl)<|lc .nil) h:kP 232 [i7 q false,iV k] _)<|Kf 1<|bp<|eS<|[3,4,7].any<|ah k
theorem cc3(k:Int):kP 198 [iV 3,iV k] (.bool (jk 3 k)):=by
  have h:=rh [3,4,7] k (by grind)
  let q:=[iV 3,iV 4,iV 7];exact bM Tryz.func198<|Kp 11 (aR.onArgs (.cons (eT q _<|by rfl)<|lc .nil) h:kP 232 [i7 q false,iV k] _)<|Kf 1<|bp<|eS<|[3,4,7].any<|ah k
theorem cc4(k:Int):kP 198 [iV 4,iV k] (.bool (jk 4 k)):=by
  have h:=rh [5] k (by grind)
  let q:=[iV 5];exact bM Tryz.func198<|Kp 11 (aR.onArgs (.cons (eT q _<|by rfl)<|lc .nil) h:kP 232 [i7 q false,iV k] _)<|Kf 1<|bp<|eS<|[5].any<|ah k
theorem cc5(k:Int):kP 198 [iV 5,iV k] (.bool (jk 5 k)):=by
  have h:=rh [6] k (by grind)
  let q:=[iV 6];exact bM Tryz.func198<|Kp 11 (aR.onArgs (.cons (eT q _<|by rfl)<|lc .nil) h:kP 232 [i7 q false,iV k] _)<|Kf 1<|bp<|eS<|[6].any<|ah k
theorem cc6(k:Int):kP 198 [iV 6,iV k] (.bool (jk 6 k)):=by
  have h:=Hk k
  exact bM Tryz.func198<|Kp 11 h<|Kf 1<|bp<|eS false
theorem cc7(k:Int):kP 198 [iV 7,iV k] (.bool (jk 7 k)):=by
  have h:=Hk k
  exact bM Tryz.func198<|Kp 11 h<|Kf 1<|bp<|eS false
theorem ze(p k:Int):kP 198 [iV p,iV k] (.bool (jk p k)):=by
  by_cases h:p<0∨7<p
  · grind[ccX]
  · grind[cc0,cc1,cc2,cc3,cc4,cc5,cc6,cc7]
theorem aM{n b m:Nat}(h1:n≤m)(h2:m≤2^40)(h3:m*b≤2^40):small n b=true:=by
  unfold small
  have h4:n*b≤m*b:=ei b h1
  grind[Nat.ble_eq_true_of_le]
noncomputable abbrev wg(u:TUnit):AObj:=.row 8 false 0 [eU u]
noncomputable abbrev iw(p:PId):AObj:=.row 3 false 0 [aK p]
def H0(p:PId)(u:TUnit)(x0:Nat×List TUnit×Unit):Prop:=(u.kids).drop x0.1=x0.2.1∧cn p u.kids=cn p x0.2.1
noncomputable def yi(p:PId)(u:TUnit)(x0:Nat×List TUnit×Unit):List AV×List AObj:=([AV.ptr 0 0 0 0,AV.ptr 1 0 0 0,AV.ls (u.kids.map aV),nV u.kids.length,nV x0.1],[AObj.row 8 false 0 [AV.agg [iV u.act,iV u.item,iV u.n,iV u.kind,AV.str u.label,AV.ls (u.head.map aQ),AV.ls (u.words.map aQ),AV.ls (u.kids.map aV)]],AObj.row 3 false 0 [AV.agg [iV p.a,iV p.i,iV p.n]]])
theorem E2(p:PId):∀(u:TUnit),nU u≤2^20→(bB p u=false→kP 28 [eU u,aK p] .nils)∧(bB p u=true→kP 28 [eU u,aK p] (.ps ((aG p u).map aV) false)):=by
  refine TUnit.ind fun u ih hn=>?_
  have ihn:∀k,k∈u.kids→By (bB p k) false→kP 28 [eU k,aK p] .nils:=fun k hk h=>(ih k hk (bT (tK (iH hk)) hn)).1 h
  have ihy:∀k,k∈u.kids→By (bB p k) true→kP 28 [eU k,aK p] (.ps ((aG p k).map aV) false):=fun k hk h=>(ih k hk (bT (tK (iH hk)) hn)).2 h
  have hkl:=bf u
  refine⟨fun hs=>?_,fun hs=>?_⟩
  · let q:=[ay [iV u.act,iV u.item,iV u.n,iV u.kind,aj u.label,aW (u.head.map aQ),aW (u.words.map aQ),aW (u.kids.map aV)]];let q3:=[iV p.a,iV p.i,iV p.n];exact bM Tryz.func28<|Kv 5 (kB ((Tryz.prog).underlying 24) u.act u.item u.n p.a p.i p.n<|av [aZ 8 false 0 q,aZ 3 false 0 [ay q3]])<|Mb (ah u.act p.a&&(ah u.item p.i&&ah u.n p.n)) (fun _=>Kf 2<|fj (by exact absurd (hs.symm.trans (DS ‹_›)) (by grind):(AV.nils)=(AV.ps q true))) fun _=>Kl 2 16 (ln aV u.kids)<|Mg 0<|VW (0:Nat) u.kids () [2,3,15,16,17] (fun a _ _=>([bJ 0 0 0 0,bJ 1 0 0 0,aW<|u.kids.map aV,nV u.kids.length,nV a],[aZ 8 false 0 [ay [iV u.act,iV u.item,iV u.n,iV u.kind,aj u.label,aW<|u.head.map aQ,aW<|u.words.map aQ,aW<|u.kids.map aV]],aZ 3 false 0 [ay [iV p.a,iV p.i,iV p.n]]])) (fun a b _=>(u.kids).drop a=b∧cn p u.kids=cn p b) (fun _ a _=>a.length) (et rfl<|by rfl) fun a b c d e=>Mc b (fun a=>have b:=fK d.1 a;have:=gP (J:=fun a _=>cn p u.kids=cn p a) (a:=c) a d.2;Kh 0 b<|Kf 0<|bp ab) fun b f g=>let i:=List.map aV<|[u]++aG p b;have j:=ft d.1 g;have:=al j;have l:=(fJ (enc:=aV) d.1 g).trans<|congrArg some<|aO b;have c:=ch (J:=fun a _=>cn p u.kids=cn p a) (a:=c) g d.2;have:nU b<nU u:=iH<|aN d.1 g;have:(aG p b).length≤nU b:=mY b;Kt 0 j<|Mx l<|Ks 4 (bB p b) (fun a=>Mp (ihy b (by exact aN d.1 g) a)<|Mg 6<|M2 .apl (et (by simp_all[lq]:List.map aV (aG p b)≠[])<|gF (sz:=8) (f:=aV) (fun _=>by(rw[aO];rfl))<|aG p b) (et (by(refine aM (m:=2^21) ?_ ?_ ?_<;>(try simp only[lM,lC,lN])<;>(have:=mY (p:=p) b;omega)):small (([AV.agg [iV u.act,iV u.item,iV u.n,iV u.kind,AV.str u.label,AV.ls (u.head.map aQ),AV.ls (u.words.map aQ),AV.ls (u.kids.map aV)]]).length+((aG p b).map aV).length) 120=true) rt)<|M1 (.obj 3<|aZ 8 true 0 i) (congrArg (aZ 8 true 0) (by(simp only[pt,eB,wq,aO,eb]<;>rfl):[AV.agg [iV u.act,iV u.item,iV u.n,iV u.kind,AV.str u.label,AV.ls (u.head.map aQ),AV.ls (u.words.map aQ),AV.ls (u.kids.map aV)]]++List.map aV (aG p b)=List.map aV ([u]++aG p b)))<|Mg 0<|M2 (.fsl 0 [] 4 i) ti (b6 (aY 0) (tA aV ([u]++aG p b) (q++List.map aV (aG p b)).length (sA:([u]++aG p b).length=([AV.agg [iV u.act,iV u.item,iV u.n,iV u.kind,AV.str u.label,AV.ls (u.head.map aQ),AV.ls (u.words.map aQ),AV.ls (u.kids.map aV)]]++List.map aV (aG p b)).length))<|aX iY<|[u]++aG p b)<|Ml 4 (eT i false<|aX iY<|[u]++aG p b)<|Mf<|fj (by exact absurd (hs.symm.trans (UW (by assumption) c (by omega))) (by grind):(AV.nils)=(AV.ls i))) fun c=>Mp (ihn b (by exact aN d.1 g) c)<|Kl 4 30 (dq a)<|K1 0 (.frz 2 [2,3,15,16,17]) (b6 rt rt ti)<|Mf<|e (a+1) f () (et (bW d.1 g)<|by grind[i9])<|dt g
  · have rr0:∀b',(h:((aG p u).map aV)=b':=by first|rfl|exact absurd (hs.symm.trans (Gh (by assumption) hj0)) (by decide)|(rw[qS (by assumption),eB,aO];rfl)|(rw[JG (by assumption) hj0 (by assumption)];rfl))→((aG p u).map aV)=b':=(fun _ h=>h);let q:=[ay [iV u.act,iV u.item,iV u.n,iV u.kind,aj u.label,aW (u.head.map aQ),aW (u.words.map aQ),aW (u.kids.map aV)]];let q3:=[iV p.a,iV p.i,iV p.n];exact bM (hv:=(aX iY (aG p u))) Tryz.func28 (Kv 5 (El (d:=(Tryz.prog).underlying 24) (n:=3) (l:=(0,1)::(1,1)::(2,1)::[]) (xs:=[iV u.act,iV u.item,iV u.n]) (ys:=q3) (H:=av [aZ 8 false 0 q,aZ 3 false 0 [ay q3]]) rfl (m9 (e:=ah u.act p.a) rfl rfl rfl (m9 (e:=ah u.item p.i) rfl rfl rfl (Ay (e:=ah u.n p.n) rfl rfl rfl rfl)))) (Mb (ah u.act p.a&&(ah u.item p.i&&ah u.n p.n)) (fun h0=>Kf 2 ((Sh (rr0 q)):Le _ (i7 q true))) (fun h0=>Kl 2 16 (Le.len (f:=aV) (l:=u.kids)) (Mg 0 (ML (Nat×List TUnit×Unit) [2,3,15,16,17] (yi p u) (H0 p u) (fun x=>x.2.1.length) (0,u.kids,()) (aY ((yi p u) (0,u.kids,()))) (et (rfl:List.drop 0 (u.kids)=u.kids) (by rfl:(cn p u.kids=cn p u.kids))) (fun x0 hx0 nx0=>Mc x0.2.1 (fun hr0=>have lt0:=fK hx0.1 hr0;have hj0:=gP (J:=fun r x=>cn p u.kids=cn p r) (a:=x0.2.2) hr0 hx0.2;(Kh 0 lt0 (Kf 0 (fj (by exact absurd (hs.symm.trans (Gh (by assumption) hj0)) (by grind):(AV.ps ((aG p u).map aV) false)=(AV.nils)))))) (fun w0 r0 hr0=>let q2:=List.map aV ([u]++aG p w0);have lt0:=ft hx0.1 hr0;have glt0:=al lt0;have nt0:=(fJ (enc:=aV) hx0.1 hr0).trans (congrArg some (aO w0));have hj0:=ch (J:=fun r x=>cn p u.kids=cn p r) (a:=x0.2.2) hr0 hx0.2;have q0:nU w0<nU u:=iH (aN hx0.1 hr0);have q1:(aG p w0).length≤nU w0:=mY w0;(Kt 0 lt0 (Mx nt0 (Ks 4 (bB p w0) (fun h2=>Mp (ihy w0 (by exact aN hx0.1 hr0) h2) (Mg 6 (M2 .apl (et (by simp_all[lq]:List.map aV (aG p w0)≠[]) (gF (sz:=8) (f:=aV) (fun _=>by(rw[aO];rfl)) (aG p w0))) (et (by(refine aM (m:=2^21) ?_ ?_ ?_<;>(try simp only[lM,lC,lN])<;>(have:=mY (p:=p) w0;omega)):small (([AV.agg [iV u.act,iV u.item,iV u.n,iV u.kind,AV.str u.label,AV.ls (u.head.map aQ),AV.ls (u.words.map aQ),AV.ls (u.kids.map aV)]]).length+((aG p w0).map aV).length) 120=true) rt) (M1 (.obj 3 (aZ 8 true 0 q2)) (congrArg (aZ 8 true 0) (by(simp only[pt,eB,wq,aO,eb]<;>rfl):[AV.agg [iV u.act,iV u.item,iV u.n,iV u.kind,AV.str u.label,AV.ls (u.head.map aQ),AV.ls (u.words.map aQ),AV.ls (u.kids.map aV)]]++List.map aV (aG p w0)=List.map aV ([u]++aG p w0))) (Mg 0 (M2 (.fsl 0 [] 4 q2) ti (b6 (aY (0)) (JT (f:=aV) (l:=[u]++aG p w0) (n:=(q++List.map aV (aG p w0)).length) (by simp_all:([u]++aG p w0).length=([AV.agg [iV u.act,iV u.item,iV u.n,iV u.kind,AV.str u.label,AV.ls (u.head.map aQ),AV.ls (u.words.map aQ),AV.ls (u.kids.map aV)]]++List.map aV (aG p w0)).length)) (aX iY ([u]++aG p w0))) (Mf ((Sh (rr0 q2)):Le _ (i7 q2 false))))))))) (fun h2=>Mp (ihn w0 (by exact aN hx0.1 hr0) h2) (Kl 4 30 (Le.wr (x:=Int.ofNat x0.1+1) eR) (K1 0 (.frz 2 [2,3,15,16,17]) (b6 rt rt ti) (Mf (nx0 (x0.1+1,r0,()) (et (bW hx0.1 hr0) (by grind[i9]:(cn p u.kids=cn p r0))) (dt hr0))))))))))))))))
theorem JH(p:PId)(u:TUnit)(h:By (bB p u) false)(hn:nU u≤2^20):kP 28 [eU u,aK p] .nils:=(E2 p u hn).1 h
theorem E1(p:PId)(u:TUnit)(h:By (bB p u) true)(hn:nU u≤2^20):kP 28 [eU u,aK p] (.ps ((aG p u).map aV) false):=(E2 p u hn).2 h
theorem RC:kP 49 [.nils] .nils:=by
  exact wk Tryz.func49 (.go 4 .fin)<|bp ab
theorem RB:kP 49 [.ps [] false] (.ps [] true):=by
  exact wk Tryz.func49 (.go 7 .fin)<|bp<|i7 [] true
theorem RD(w:PWord)(r:List PWord)(hl:r.length<2^30):kP 49 [.ls ((w::r).map aQ)] (.ls ((w::r).map aQ)):=by
  let q:=List.map aQ (w::r);exact bM Tryz.func49<|Mg 1<|Mz 3 (fun(a:((w::r).map aQ:List AV)=[])=>Mw .abs<|mJ _ _ a)<|Mg 3<|M2 .apl (et (sA:List.map aQ (w::r)≠[])<|fM 4 aQ (w::r) fun _=>rfl) (by(refine aM (m:=2^31) ?_ ?_ ?_<;>first|omega|grind):small ((w::r).map aQ).length 40=true)<|Mg 0<|M2 (.fsl 0 [] 2 q) ti (b6 (aY 0) (tA aQ (w::r) q.length (sA:(w::r).length=((w::r).map aQ).length))<|aX iM<|w::r)<|Ml 2 (eT q false<|aX iM<|w::r)<|Mf<|bp<|aW q
theorem M6(p:PId)(u:TUnit)(h:By (bB p u) false)(hn:nU u≤2^20):kP 31 [eU u,.pptr [aK p] 0 0] (.bool false):=by
  have h':bB p u=false:=h
  exact bM Tryz.func31<|Kp 3 (JH p u h hn)<|Kf 1<|bp<|eS false
theorem M5(p:PId)(u:TUnit)(h:By (bB p u) true)(hn:nU u≤2^20):kP 31 [eU u,.pptr [aK p] 0 0] (.bool true):=by
  have h':bB p u=true:=h
  exact bM Tryz.func31<|Kp 3 (E1 p u h hn)<|Kf 1<|bp<|eS true
theorem aau(l:List TUnit)(g:Nat)(q:TUnit→Bool)(hp:∀k,k∈l→kP g [eU k] (.bool (q k)))(hl:l.length<2^40):kP 30 [.ls (l.map aV),.func (.func g) [] []] (iV (dE q l 0)):=by
  have rr0 b' (h:(dE q l 0)=b':=by first|exact my zd0 hr0 hj0 ‹_› |exact hj0):=h;exact bM Tryz.func30<|Kl 2 7 (ln aV l)<|Mg 0<|tJ aV l [0,1,7,8] (fun a _=>([aW<|l.map aV,bU (bY g) [] [],nV l.length,nV a],[])) (fun a=>dE q l (0:Nat)=dE q a (l.length-a.length)) sA (fun _ _ zd0 _ hr0 a hj0=>Kh 0 a<|Kf 0<|li<|rr0 (-1)) fun a _ zd0 _ b c d hr0 e _ f hj0=>have f:=f.trans<|congrArg some<|aO b;Kt 0 e<|Kx 4 f<|Kp 0 (hp b<|by exact aN zd0 hr0)<|Mb (q b) (fun _=>Kf 1<|li<|rr0<|Int.ofNat a) fun _=>Kl 0 18 (dq a)<|Kf 0<|d<|by exact ke zd0 hr0 hj0 (by omega)
theorem ZD(l:List TUnit)(g:Nat)(p:PId)(q:TUnit→Bool)(hp:∀k,k∈l→kP g [eU k,.pptr [aK p] 0 0] (.bool (q k)))(hl:l.length<2^40):kP 30 [.ls (l.map aV),.func (.func g) [] [.pptr [aK p] 0 0]] (iV (dE q l 0)):=by
  have rr0 b' (h:(dE q l 0)=b':=by first|exact my zd0 hr0 hj0 ‹_› |exact hj0):=h;exact bM Tryz.func30<|Kl 2 7 (ln aV l)<|Mg 0<|tJ aV l [0,1,7,8] (fun a _=>([aW<|l.map aV,bU (bY g) [] [AV.pptr [ay [iV p.a,iV p.i,iV p.n]] 0 0],nV l.length,nV a],[])) (fun a=>dE q l (0:Nat)=dE q a (l.length-a.length)) sA (fun _ _ zd0 _ hr0 a hj0=>Kh 0 a<|Kf 0<|li<|rr0 (-1)) fun a _ zd0 _ b c d hr0 e _ f hj0=>have f:=f.trans<|congrArg some<|aO b;Kt 0 e<|Kx 4 f<|Kp 0 (hp b<|by exact aN zd0 hr0)<|Mb (q b) (fun _=>Kf 1<|li<|rr0<|Int.ofNat a) fun _=>Kl 0 18 (dq a)<|Kf 0<|d<|by exact ke zd0 hr0 hj0 (by omega)
theorem Rd{D a:Nat}{w:TUnit}{r:List TUnit}{u:TUnit}(h:D=Nat.max a (kG (w::r))∧a≤2^20)(q0:nU w<nU u)(q1:nJ w<nU w)(hn:nU u≤2^20):D=Nat.max (Nat.max a (1+nJ w)) (kG r)∧Nat.max a (1+nJ w)≤2^20:=by
  grind[kG]
theorem Un{D a:Nat}(h:D=Nat.max a (kG [])∧a≤2^20):D=a:=by
  simp_all[C0]
theorem HY:∀(u:TUnit),nU u≤2^20→kP 202 [eU u] (nV (nJ u)):=by
  refine TUnit.ind fun u ih hn=>?_
  have hkl:=bf u
  have ihk:∀k,k∈u.kids→kP 202 [eU k] (nV (nJ k)):=fun k hk=>ih k hk (bT (tK (iH hk)) hn)
  have rr0 b' (h:(Int.ofNat (nJ u))=b':=by(rw[Lh,Un hj0])):=h;exact bM Tryz.func202<|Kl 5 8 (ln aV u.kids)<|Mg 0<|LN aV u.kids (0:Nat) [3,7,8,9] (fun a _ b=>([nV b,aW<|u.kids.map aV,nV u.kids.length,nV a],[aZ 8 false 0 [ay [iV u.act,iV u.item,iV u.n,iV u.kind,aj u.label,aW<|u.head.map aQ,aW<|u.words.map aQ,aW<|u.kids.map aV]]])) (fun a b=>kG u.kids=b.max (kG a)∧b≤2^20) sA (fun _ _ a _ _ _ b hj0=>Kh 0 b<|Kf 1<|li<|rr0<|Int.ofNat a) fun a _ b c d e f g i j _ l _=>have l:=(l).trans<|congrArg some<|aO e;have hj0:=ch (J:=fun a b=>kG u.kids=b.max (kG a)∧b≤2^20) (a:=b) i d;have d:=iH<|aN c i;have m:=EV e;Kt 0 j<|Mx l<|Kp 4 (ihk e<|by exact aN c i)<|Kl 0 16 (cZ (x:=(1:Int)+Int.ofNat (nJ e)) (n:=(1:Nat)+nJ e) eR)<|Kl 0 17 (pn (k:=IntKind.i64)<|Wq b<|1+nJ e)<|Kl 1 18 (gc a)<|K1 0 (.frz 1 [3,7,8,9]) (et rt ti)<|Mf<|g (b.max<|1+nJ e)<|by exact Rd hj0 d m hn
theorem Lb(g:Nat)(q:TUnit→Bool):∀(u:TUnit),(∀x,x∈bu u→kP g [eU x] (.bool (q x)))→u.kids.length<2^40→(∀x,x∈bu u→x.kids.length<2^40)→kP 39 [eU u,.func (.func g) [] []] (.bool (wV q u)):=by
  refine TUnit.ind fun u ih hp hl hk=>?_
  have ihk:∀k,k∈u.kids→kP 39 [eU k,.func (.func g) [] []] (.bool (wV q k)):=fun k hm=>ih k hm (fun x hx=>hp x (bH hm hx)) (hk k (LZ hm)) (fun x hx=>hk x (bH hm hx))
  have hs:=hp u (dh u)
  have rr0 b' (h:(wV q u)=b':=by first|(rw[yw];simp only[aS,ax,bS, *];done)|(rw[yw,hj0,N8])|(rw[yw,hj0,BZ];simp only[aS,ax,bS, *];done)):=h;exact bM Tryz.func39<|Kp 3 hs<|Kn 0 (q u) (fun _=>Ky 0<|rr0 false) fun _=>Kl 2 13 (ln aV u.kids)<|K1 0 (.frz 0 [1,12,13,14]) ti<|tJ aV u.kids [1,12,13,14] (fun a _=>([bU (bY g) [] [],aW<|u.kids.map aV,nV u.kids.length,nV a],[])) (fun a=>(q u&&(du u.kids).all q)=(du a).all q) (by(simp only[aS,ax,bS, *];done)) (fun _ _ _ _ _ a hj0=>Kh 0 a<|Ky 0<|rr0 true) fun a _ b _ c d e f i _ j hj0=>have j:=j.trans<|congrArg some<|aO c;Kt 0 i<|Mx j<|Kp 4 (ihk c<|by exact aN b f)<|Kn 0 (wV q c) (fun _=>Kf 0<|cb<|rr0 false) fun _=>Kl 0 22 (dq a)<|K1 0 (.frz 0 [1,12,13,14]) ti<|Mf<|e<|by simp_all[BZ]
theorem NL(u:TUnit)(n:Nat)(hn:n<2^40):kD 40 [eU u,.ptr 0 0 0 0] (av [.row 1 false 0 [nV n]]) (.bool true) (av [.row 1 false 0 [nV (n+1)]]):=by
  exact eg Tryz.func40 fun a=>Kl 3 5 (gc n)<|K1 1 (.frz 1 [3]) (et rt ti)<|Mf a
theorem G0:∀(u:TUnit),∀(n:Nat),n+nU u<2^40→kD 39 [eU u,.func (.func 40) [] [.ptr 0 0 0 0]] (av [.row 1 false 0 [nV n]]) (.bool true) (av [.row 1 false 0 [nV (n+nU u)]]):=by
  refine TUnit.ind fun u ih n hn=>?_
  have hq:=jq u
  have hl:=bf u
  exact JF Tryz.func39<|K1 3 (.frz 1 [1,2,7,8]) (et rt ti)<|Me (NL u n oA)<|Kl 4 13 (ln aV u.kids)<|Mg 0<|LN aV u.kids (n+1) [1,12,13,14] (fun a _ b=>([bU (bY 40) [] [bJ 0 0 0 0],aW<|u.kids.map aV,nV u.kids.length,nV a],[aZ 1 false 0 [nV b]])) (fun a b=>n+nU u=b+eV a∧b+eV a<2^40) oA (fun _ _ a _ _ _ b _=>Kh 0 b<|Kf 0<|et (aY<|eS true) (by simp_all[mq]:(av [AObj.row 1 false 0 [nV a]])=(av [AObj.row 1 false 0 [nV (n+nU u)]]))) fun a _ b c _ d e f g h _ i _=>have i:=i.trans<|congrArg some<|aO d;have c:=aN c g;have g:b+nU d<2^40:=(by grind[be]);Kt 0 h<|Mx i<|K1 4 (.frz 1 [1,12,13,14,18,19]) (et rt ti)<|Me (ih d c b g)<|Kl 2 22 (gc a)<|Kf 0<|f (b+nU d)<|by grind[be]
theorem EU(u:TUnit)(hn:nU u<2^39):kP 23 [eU u] (nV (nU u)):=by
  have rr0 b' (h:(Int.ofNat (nU u))=b':=by(rw[fw])):=h;exact bM Tryz.func23<|Mg 5<|M0 (.ren [1,0] [] [3,4,5])<|M1 (.frz 1 [3,4,5]) (et rt ti)<|Me (G0 u 0 oA)<|Kf 1<|li<|rr0<|Int.ofNat<|0+nU u
noncomputable abbrev rH(ep n:Nat):AObj:=.row 1 false 0 [.slice 1 ep 0 n none]
noncomputable abbrev MI(ep:Nat)(l:List PId):AObj:=.row 3 true ep (l.map aK)
theorem Wu(u:TUnit):kD 203 [eU u,.ptr 0 0 0 0] (av [.row 1 false 0 [.nils]]) (.bool true) (av [rH 0 1,MI 0 [bq u]]):=by
  exact wcq Tryz.func203 (.go 8<|.ren [0,2,1] [] [3]<|.frz 2 [3] .fin) fun a=>et (b6 rt rt ti) a
theorem WA(u:TUnit)(ep n:Nat)(l:List PId)(hn:n=l.length)(hl:l.length<2^30):kD 203 [eU u,.ptr 0 0 0 0] (av [rH ep n,MI ep l]) (.bool true) (av [rH (ep+1) (n+1),MI (ep+1) (l++[bq u])]):=by
  exact eg Tryz.func203 fun a=>K1 5 .app (b6 (aY ep) (sA:n=(l.map aK).length) (by(refine aM (m:=2^31) ?_ ?_ ?_<;>omega):small (n+1) 24=true))<|M1 (.obj 1<|aZ 3 true (ep+1)<|(l++[PId.mk u.act u.item u.n]).map aK) (congrArg (aZ 3 true<|ep+1)<|co (f:=aK) (l:=l) (ws:=[PId.mk u.act u.item u.n]))<|K1 1 (.frz 2 [3]) (b6 (tR 3 true (ep+1) 2<|aX Jz<|l++[PId.mk u.act u.item u.n]) rt ti)<|Mf a
theorem NA:∀(u:TUnit),∀(ep n:Nat)(l:List PId),n=l.length→l.length+nU u<2^30→kC 39 [eU u,.func (.func 203) [] [.ptr 0 0 0 0]] (av [rH ep n,MI ep l])
    (fun v h=>∃y:Nat×Nat×List PId,(y.2.1=y.2.2.length∧y.2.2=l++dj u)∧v=.bool true∧h=av [rH y.1 y.2.1,MI y.1 y.2.2]):=by
  refine TUnit.ind fun u ih ep n l hn hl=>?_
  have hq:=jq u
  have hkl:=bf u
  exact qY Tryz.func39 fun a=>K1 3 (.frz 2 [1,2,7,8]) (b6 (tR 3 true ep 2<|aX Jz l) rt ti)<|Me (WA u ep n l hn oA)<|Kl 4 13 (ln aV u.kids)<|Mg 0<|VX aV u.kids (ep+1) (n+1) (l++[bq u]) [1,12,13,14] (fun a _ b c d=>([bU (bY 203) [] [bJ 0 0 0 0],aW<|u.kids.map aV,nV u.kids.length,nV a],[aZ 1 false 0 [aE 1 b 0 c none],aZ 3 true b<|d.map aK])) (fun a _ b c=>b=c.length∧c++ip a=l++[bq u]++ip u.kids∧c.length+eV a<2^30) gR (fun _ _ b c d _ _ _ e _=>Kh 0 e<|Kf 0<|a (b,c,d)<|by grind[rk,nF]) fun a _ b c d e f g i j k m _ o _=>have o:=(o).trans<|congrArg some<|aO g;have:=ch (J:=fun a b=>b.2.1=b.2.2.length∧b.2.2++ip a=l++[bq u]++ip u.kids∧b.2.2.length+eV a<2^30) (a:=(b,c,d)) k f;have e:=aN e k;have f:d.length+nU g<2^30:=(by grind[be]);Kt 0 m<|Mx o<|K1 4 (.frz 2 [1,12,13,14,18,19]) (b6 (tR 3 true b 2<|aX Jz d) rt ti)<|Mq (ih g e b c d oA f) fun b _=>Kl 2 22 (dq a)<|Kf 0<|j b.1 b.2.1 b.2.2<|by grind[be,gz,ue]
theorem Vj(l:List PWord)(hl:l.length≤300)(hs:∀w,w∈l→w.text.length≤2^39):kP 283 [.ls (l.map aQ)] (.bool (oI l)):=by
  have hv:=KU (l.map PWord.text) (by grind) (fun s hm=>by grind)
  have rr0 b' (h:(oI l)=b':=by(simp only[oI,aS,ax,bS, *])):=h;exact bM Tryz.func283<|Kl 3 7 (ln aQ l)<|Mg 0<|kr Nat Nat (List aT) aQ l [0,3,6,7,8] (fun a _=>([aW<|l.map aQ,ab,aW<|l.map aQ,nV l.length,nV a],[])) (fun a _ b c d=>([aW<|l.map aQ,aE 0 b 0 c none,aW<|l.map aQ,nV l.length,nV a],[aZ 1 true b<|d.map nW])) (fun a=>a=l) (fun a _ b c=>b=c.length∧(0:Nat)<c.length∧c++List.map PWord.text a=List.map PWord.text l∧c.length+a.length=l.length) (by rfl) (fun _ _ _ _ _ a _=>Kh 0 a<|Kl 1 19 (ln aQ l)<|Kd 1 256 (Int.ofNat l.length) (fun a _=>Kt 0 (bo a)<|Mp (aR.onArgs (.cons (Le.lsn (sA:((l.map PWord.text).map nW)=[])) .nil) hv:kP 216 [ab] _)<|MV (bo a)<|Kf 0<|cb<|rr0<|qb<|l.map PWord.text) fun a _=>Mh (bw a)<|My (bw a)<|Kf 0<|cb<|rr0 false) (fun a _ _ _ b c _ d _ e _ f g=>Kt 0 e<|Mx f<|Kl 9 17 (gc a)<|Mg 0<|M0 (.ren [1,0] [] [0,3,6,7,8])<|M1 (.frz 1 [0,3,6,7,8]) (et rt ti)<|Mf<|d 0 1 [b.text]<|by(refine⟨rfl,by simp,?_,?_⟩<;>(rw[←g])<;>(first|rfl|grind))) (fun _ _ a b c _ _ _ d _=>Kh 0 d<|Kl 1 19 (ln aQ l)<|Kd 1 256 (Int.ofNat l.length) (fun d _=>Mg 0<|M2 (.fsl 0 [21] 22<|c.map nW) ti (b6 (aY a) (tA nW c b (oA:(c).length=b))<|aX Jq c)<|Ml 22 (eT (c.map nW) false<|aX Jq c)<|Mt (bo d)<|Mp (aR.onArgs (.cons (cV (sA:((l.map PWord.text).map nW)=(c.map nW))) .nil) hv:kP 216 [aW (c.map nW)] _)<|MV (bo d)<|Kf 0<|cb<|rr0<|qb<|l.map PWord.text) fun a _=>Mh (bw a)<|My (bw a)<|Kf 0<|cb<|rr0 false) fun a _ b c d _ _ e f _ g _ i _ j k=>Kt 0 i<|Mx j<|K1 6 .app (b6 (aY b) (sA:c=(d.map nW).length) (by(refine aM (m:=2^20) ?_ ?_ ?_<;>omega):small (c+1) 16=true))<|M1 (.obj 0<|aZ 1 true (b+1)<|(d++[e.text]).map nW) (congrArg (aZ 1 true<|b+1)<|co (f:=nW) (l:=d) (ws:=[e.text]))<|Kl 1 17 (gc a)<|K1 0 (.frz 1 [0,3,6,7,8]) (et (tR 1 true (b+1) 1<|aX Jq<|d++[e.text]) ti)<|Mf<|g (b+1) (c+1) (d++[e.text])<|by(refine⟨by simp_all,by simp,?_,?_⟩<;>first|(rw[←k.2.2.1];simp;done)|grind)
theorem o9(a b:Nat):Int.ofNat (a+b)=Int.ofNat a+Int.ofNat b:=rfl
theorem Sj(u:TUnit)(h1:u.head.length≤300)(h2:u.words.length≤300)(h3:u.kids.length<2^30)(h4:u.label.length≤2^39)(h5:∀w,w∈u.head→w.text.length≤2^39)(h6:∀w,w∈u.words→w.text.length≤2^39):kP 267 [eU u] (.bool (mZ u)):=by
  have hlk:∀(m:List ((Int×aT)×Bool))(a:Int)(s:aT),eL (some (.bool false)) false (bc true 2 [(0,1),(1,2)] (.agg [iV a,.str s]) (cW pF dw m 0) 0)=some (.bool (Ox nQ (a,s) m)):=fun m a s=>F7 LX m (a,s)
  have hup:∀(m:List ((Int×aT)×Bool))(a:Int)(s:aT),rE (cW pF dw m 0) m.length (.agg [iV a,.str s]) (.bool true) (bc true 2 [(0,1),(1,2)] (.agg [iV a,.str s]) (cW pF dw m 0) 0)=some (cW pF dw (fF nQ (a,s) true m) 0,(fF nQ (a,s) true m).length):=fun m a s=>JM LX m (a,s)
  have r1:=Vj u.head h1 h5
  have r2:=Vj u.words h2 h6
  have r3:=ux u.label h4
  have rr0 b' (h:(mZ u)=b':=by first|(rw[mZ,hj0,mT];simp only[DG,bx,o9,cond_true,cond_false,aS,ax,bS,tq,Bool.false_and,Bool.not_true,BE,yd, *];first|done|rfl)|(simp only[mZ,DG,bx,o9,cond_true,cond_false,aS,ax,bS, *];done)|(simp only[mZ,mT,DG,bx,o9,cond_true,cond_false,aS,ax,bS, *];done)|(simp only[mZ,mT,DG,bx,o9,cond_true,cond_false,aS,ax,bS,tq,Bool.false_and,Bool.not_true,BE,yd, *];first|done|rfl)):=h;exact bM Tryz.func267<|Kj 4 u.kind 0 (fun _ b=>Kn 3 (eX u.label (ByteArray.mk #[]).data.toList) (fun b=>Mt (bo b)<|Mt (bo b)<|Mt (bo b)<|Mt (bo b)<|Mt (bo b)<|Mt (bo b)<|Mt (bo b)<|MV (bo b)<|Ky 1<|rr0 false) fun c=>Kh 0 (bw c)<|Kh 0 (bw c)<|Kl 0 16 (ln aQ u.head)<|Mh (bw c)<|Kh 0 (bw c)<|Kh 0 (bw c)<|Kl 0 19 (ln aQ u.words)<|Mh (bw c)<|Kl 0 20 (Le.wr (x:=Int.ofNat u.head.length+Int.ofNat u.words.length) eR)<|Mh (bw c)<|Kw 0 (bw c)<|Mb (aC 0<|Int.ofNat u.head.length+Int.ofNat u.words.length) (fun b=>have:=al b;Ky 0<|rr0 false) fun c=>have:=aD c;Kl 4 48 (ln aV u.kids)<|Mg 0<|LN aV u.kids ([]:List ((Int×aT)×Bool)) [1,3,47,48,49] (fun b _ c=>([bJ 0 0 0 0,AV.map 1,aW<|u.kids.map aV,nV u.kids.length,nV b],[aZ 8 false 0 [ay [iV u.act,iV u.item,iV u.n,iV u.kind,aj u.label,aW<|u.head.map aQ,aW<|u.words.map aQ,aW<|u.kids.map aV]],AObj.map (cW pF dw c 0) c.length])) (fun b c=>mT u.kind u.kids []=mT u.kind b c) (by rfl) (fun _ _ _ _ _ _ b hj0=>Kh 0 b<|Kl 2 74 (ln aV u.kids)<|Kf 1<|cb<|rr0<|ax<|aC 64<|Int.ofNat u.kids.length) fun c _ d _ _ e f g _ i _ j hj0=>have j:=j.trans<|congrArg some<|aO e;Kt 0 i<|Mx j<|Kl 11 59 (pn (k:=IntKind.i64) b)<|Kp 1 (ze 0 e.kind)<|Kn 1 (jk 0 e.kind) (fun b=>Mt (bo b)<|Mt (bo b)<|MV (bo b)<|Ky 1<|rr0 false) fun b=>Kh 0 (bw b)<|Kh 0 (bw b)<|M1 (.look<|eS<|Ox nQ (e.kind,e.label) d) (hlk d e.kind e.label)<|My (bw b)<|Mb (Ox nQ (e.kind,e.label) d) (fun _=>Kf 0<|cb<|rr0 false) fun _=>K1 1 (.upd (cW pF dw (fF nQ (e.kind,e.label) true d) 0) (fF nQ (e.kind,e.label) true d).length) (hup d e.kind e.label)<|Kl 0 71 (dq c)<|K1 0 (.frz 2 [1,3,47,48,49]) (b6 (tM (fF nQ (e.kind,e.label) true d).length 2 (by exact cY LX Ag _ _:fU (cW pF dw (fF nQ (e.kind,e.label) true d) 0)=0)) rt ti)<|Mf<|g (fF nQ (e.kind,e.label) true d)<|by(rw[hj0,mT];simp only[aS,ax,bS, *];done)) fun _ _=>Kp 1 (wO u.kind)<|Kb 1 (eX (dX u.kind) (ByteArray.mk #[]).data.toList) (fun b=>Mt b<|Mt b<|Mt b<|MV b<|Ky 5<|rr0 false) fun b=>Kh 0 b<|Kh 0 b<|Mp r3<|Mh b<|Kw 0 b<|Kn 0 (ky u.label) (fun b=>Mt (bo b)<|Mt (bo b)<|Mt (bo b)<|MV (bo b)<|Ky 3<|rr0 false) fun b=>Kh 0 (bw b)<|Kh 0 (bw b)<|Mp r1<|Mh (bw b)<|Kw 0 (bw b)<|Kn 0 (oI u.head) (fun b=>Mt (bo b)<|Mt (bo b)<|Mt (bo b)<|MV (bo b)<|Ky 1<|rr0 false) fun b=>Kh 0 (bw b)<|Kh 0 (bw b)<|Mp r2<|Mh (bw b)<|Kw 0 (bw b)<|Mn (oI u.words) (fun _=>Ky 0<|rr0 false) fun _=>Kl 4 48 (ln aV u.kids)<|Mg 0<|LN aV u.kids ([]:List ((Int×aT)×Bool)) [1,3,47,48,49] (fun b _ c=>([bJ 0 0 0 0,AV.map 1,aW<|u.kids.map aV,nV u.kids.length,nV b],[aZ 8 false 0 [ay [iV u.act,iV u.item,iV u.n,iV u.kind,aj u.label,aW<|u.head.map aQ,aW<|u.words.map aQ,aW<|u.kids.map aV]],AObj.map (cW pF dw c 0) c.length])) (fun b c=>mT u.kind u.kids []=mT u.kind b c) (by rfl) (fun _ _ _ _ _ _ b hj0=>Kh 0 b<|Kl 2 74 (ln aV u.kids)<|Kf 1<|cb<|rr0<|ax<|aC 64<|Int.ofNat u.kids.length) fun b _ c _ _ d e f _ g _ i hj0=>have i:=i.trans<|congrArg some<|aO d;Kt 0 g<|Mx i<|Kp 13 (ze u.kind d.kind)<|Kn 1 (jk u.kind d.kind) (fun b=>Mt (bo b)<|Mt (bo b)<|MV (bo b)<|Ky 1<|rr0 false) fun g=>Kh 0 (bw g)<|Kh 0 (bw g)<|M1 (.look<|eS<|Ox nQ (d.kind,d.label) c) (hlk c d.kind d.label)<|My (bw g)<|Mb (Ox nQ (d.kind,d.label) c) (fun _=>Kf 0<|cb<|rr0 false) fun _=>K1 1 (.upd (cW pF dw (fF nQ (d.kind,d.label) true c) 0) (fF nQ (d.kind,d.label) true c).length) (hup c d.kind d.label)<|Kl 0 71 (dq b)<|K1 0 (.frz 2 [1,3,47,48,49]) (b6 (tM (fF nQ (d.kind,d.label) true c).length 2 (by exact cY LX Ag _ _:fU (cW pF dw (fF nQ (d.kind,d.label) true c) 0)=0)) rt ti)<|Mf<|f (fF nQ (d.kind,d.label) true c)<|by(rw[hj0,mT];simp only[aS,ax,bS, *];done)
theorem JZ(u:TUnit)(hl:nU u<2^29):kC 39 [eU u,.func (.func 203) [] [.ptr 0 0 0 0]] (av [.row 1 false 0 [.nils]])
    (fun v h=>∃y:Nat×Nat×List PId,(y.2.1=y.2.2.length∧y.2.2=dj u)∧v=.bool true∧h=av [rH y.1 y.2.1,MI y.1 y.2.2]):=by
  have hq:=jq u
  have hkl:=bf u
  exact qY Tryz.func39 fun a=>K1 3 (.frz 1 [1,2,7,8]) (et rt ti)<|Me (Wu u)<|Kl 4 13 (ln aV u.kids)<|Mg 0<|VX aV u.kids (0:Nat) (1:Nat) ([bq u]:List PId) [1,12,13,14] (fun a _ b c d=>([bU (bY 203) [] [bJ 0 0 0 0],aW<|u.kids.map aV,nV u.kids.length,nV a],[aZ 1 false 0 [aE 1 b 0 c none],aZ 3 true b<|d.map aK])) (fun a _ b c=>b=c.length∧c++ip a=[bq u]++ip u.kids∧c.length+eV a<2^30) gR (fun _ _ b c d _ _ _ e f=>Kh 0 e<|Kf 0<|a (b,c,d)<|by(refine⟨f.1,?_⟩;have:=f.2.1;rw[rk,ec]at this;rw[this,nF];rfl)) fun a _ b c d e f g i j k l _ m _=>have m:=(m).trans<|congrArg some<|aO g;have:=ch (J:=fun a b=>b.2.1=b.2.2.length∧b.2.2++ip a=[bq u]++ip u.kids∧b.2.2.length+eV a<2^30) (a:=(b,c,d)) k f;have:=aN e k;have e:d.length+nU g<2^30:=(by grind[be]);Kt 0 l<|Mx m<|K1 4 (.frz 2 [1,12,13,14,18,19]) (b6 (tR 3 true b 2<|aX Jz d) rt ti)<|Mq (NA g b c d oA e) fun b _=>Kl 2 22 (dq a)<|Kf 0<|j b.1 b.2.1 b.2.2<|by grind[be,gz,ue]
theorem Qu(u:TUnit)(hl:nU u<2^29):kP 145 [eU u] (.ls ((dj u).map aK)):=by
  have rr0 b' (h:((dj u).map aK)=b':=by(rw[hy0.2])):=h;exact bM Tryz.func145<|Mg 4<|M0 (.ren [1,0] [] [3,4,5])<|M1 (.frz 1 [3,4,5]) (et rt ti)<|Mq (JZ u hl) fun a hy0=>Mg 1<|M2 (.fsl 0 [] 2<|a.2.2.map aK) ti (b6 (aY a.1) (tA aK a.2.2 a.2.1 (oA:(a.2.2).length=a.2.1))<|aX Jz a.2.2)<|Ml 2 (eT (a.2.2.map aK) false<|aX Jz a.2.2)<|Mf<|cV<|rr0<|a.2.2.map aK
theorem Ws(u:TUnit)(hl:nU u<2^20):kP 268 [eU u] (.bool (QA u)):=by
  have hb:(dj u).length<2^20:=by grind[ue]
  have hi:=Qu u (by omega)
  have hlk:∀(m:List (PId×Bool))(a b c:Int),eL (some (.bool false)) false (bc true 3 [(0,1),(1,1),(2,1)] (.agg [iV a,iV b,iV c]) (cW aK dw m 0) 0)=some (.bool (Ox bj ⟨a,b,c⟩ m)):=fun m a b c=>F7 IM m ⟨a,b,c⟩
  have hup:∀(m:List (PId×Bool))(a b c:Int),rE (cW aK dw m 0) m.length (.agg [iV a,iV b,iV c]) (.bool true) (bc true 3 [(0,1),(1,1),(2,1)] (.agg [iV a,iV b,iV c]) (cW aK dw m 0) 0)=some (cW aK dw (fF bj ⟨a,b,c⟩ true m) 0,(fF bj ⟨a,b,c⟩ true m).length):=fun m a b c=>JM IM m ⟨a,b,c⟩
  have rr0 b' (h:(QA u)=b':=by((try clear gh1);(try clear gh2);(try clear gh3);(try clear gh4);(try clear gh5);(try clear gh6);(try clear gh7);have e:=CR (kenc:=aK) (f:=dw) za0 0;simp only[e,lM]at *;simp only[QA,fL,bj,bq,b0,hj0,MU,aS,ax,bS, *];first|done|rfl)):=h;exact bM Tryz.func268<|Kp 2 hi<|Kl 4 12 (ln aK<|dj u)<|Mg 0<|LN aK (dj u) ([]:List (PId×Bool)) [1,3,4,11,12,13] (fun d _ g=>([bJ 0 0 0 0,aW<|(dj u).map aK,AV.map 1,aW<|(dj u).map aK,nV (dj u).length,nV d],[aZ 8 false 0 [ay [iV u.act,iV u.item,iV u.n,iV u.kind,aj u.label,aW<|u.head.map aQ,aW<|u.words.map aQ,aW<|u.kids.map aV]],AObj.map (cW aK dw g 0) g.length])) (fun d g=>CJ (dj u) []=CJ d g) (by rfl) (fun _ _ za0 _ _ _ d hj0=>Kh 0 d<|K1 1 (.look<|eS<|Ox bj (PId.mk 0 0 0) za0) (hlk za0 0 0 0)<|Kb 2 (Ox bj (PId.mk 0 0 0) za0) (fun d=>Kt 0 d<|Kt 0 d<|Ku 0 d<|Kj 0 (Int.ofNat (cW aK dw za0 0).length) 1 (fun d gh2=>Mt d<|Mt d<|Mt d<|Mt d<|Mt d<|Mt d<|MV d<|Ky 0<|rr0 true) fun d gh2=>Kh 0 d<|Kh 0 d<|Kh 0 d<|Kh 0 d<|Kh 0 d<|Kj 0 (Int.ofNat (cW aK dw za0 0).length) (Int.ofNat ((dj u).map aK).length) (fun g gh3=>Kt 0 g<|Kt 0 g<|Kt 0 g<|Kt 0 g<|Kt 0 g<|Kt 0 g<|Mv (kB ((Tryz.prog).underlying 24) u.act u.item u.n 0 0 0 h0)<|Mt g<|Kh 0 d<|MV g<|My d<|Kf 0<|cb<|rr0<|ah u.kind 0==(ah u.act 0&&(ah u.item 0&&ah u.n 0))) fun g gh3=>Mh g<|Mh g<|Mh g<|Mh g<|Mh g<|Mh g<|Mh g<|Mh d<|My g<|My d<|Ky 0<|rr0 false) fun d=>Mh d<|Mh d<|My d<|Kj 6 (Int.ofNat (cW aK dw za0 0).length) (Int.ofNat ((dj u).map aK).length) (fun d gh4=>Kt 0 d<|Kt 0 d<|Kt 0 d<|Kt 0 d<|Kt 0 d<|Kt 0 d<|Mv (kB ((Tryz.prog).underlying 24) u.act u.item u.n 0 0 0 h0)<|Mt d<|Ku 0 d<|Kf 1<|cb<|rr0<|ah u.kind 0==(ah u.act 0&&(ah u.item 0&&ah u.n 0))) fun d gh4=>Mh d<|Mh d<|Mh d<|Mh d<|Mh d<|Mh d<|Mh d<|My d<|Ky 1<|rr0 false) fun d _ za0 _ _ g i j _ k _ l hj0=>Kt 0 k<|Mx l<|K1 4 (.upd (cW aK dw (fF bj (PId.mk g.a g.i g.n) true za0) 0) (fF bj (PId.mk g.a g.i g.n) true za0).length) (hup za0 g.a g.i g.n)<|Kl 0 19 (gc d)<|K1 0 (.frz 2 [1,3,4,11,12,13]) (b6 (tM (fF bj (PId.mk g.a g.i g.n) true za0).length 2 (by exact cY IM Ag _ _:fU (cW aK dw (fF bj (PId.mk g.a g.i g.n) true za0) 0)=0)) rt ti)<|Mf<|j (fF bj (PId.mk g.a g.i g.n) true za0)<|by(rw[hj0];rfl)
/-- What a tree's parts must be, so that the walks can count. -/
def rS(x:TUnit):Prop:=x.head.length≤300∧x.words.length≤300∧x.label.length≤2^39∧(∀w,w∈x.head→w.text.length≤2^39)∧∀w,w∈x.words→w.text.length≤2^39
def mD(u:TUnit):Prop:=nU u≤2^19∧∀x,x∈bu u→rS x
theorem G1(u:TUnit)(h:mD u):kP 39 [eU u,.func (.func 267) [] []] (.bool (wV mZ u)):=
  Lb 267 mZ u
    (fun x hx=>by
      obtain⟨a,b,c,d,e⟩:=h.2 x hx
      have h1:=bf x
      have h2:=dP hx
      have h3:=h.1
      grind[Sj])
    (by have h1:=bf u;have h3:=h.1;omega)
    (fun x hx=>by
      have h1:=bf x
      have h2:=dP hx
      have h3:=h.1
      omega)
theorem xG(u:TUnit)(h:mD u):kP 238 [eU u] (.bool (kO u)):=by
  have h1:=h.1
  have e1:=G1 u h
  have e2:=HY u (by omega)
  have e3:=EU u (by omega)
  have e4:=Ws u (by omega)
  have hd:=EV u
  have rr0 b' (h:(kO u)=b':=by(simp only[kO,aS,ax,bS, *];done)):=h;exact bM Tryz.func238<|Kp 2 e1<|Kb 0 (wV mZ u) (fun a=>Kt 0 a<|Mp e2<|Mt a<|Ku 0 a<|Kn 0 (aC 8<|Int.ofNat<|nJ u) (fun a=>Kt 0 (bo a)<|Mp e3<|Mt (bo a)<|Ku 0 (bo a)<|Kn 0 (aC 1024<|Int.ofNat<|nU u) (fun a=>Kt 0 (bo a)<|Mp e4<|MV (bo a)<|Kf 0<|cb<|rr0<|QA u) fun a=>Mh (bw a)<|My (bw a)<|Ky 0<|rr0 false) fun a=>Mh (bw a)<|Mh (bw a)<|My (bw a)<|Ky 2<|rr0 false) fun a=>Mh a<|Mh a<|My a<|Ky 4<|rr0 false
theorem ri(l:List PWord)(hl:l.length<2^30):kP 49 [.ls (l.map aQ)] (.ls (l.map aQ)):=by
  cases l with
  |nil=>exact aR.ls0 (RC.less Le.nils) (RB.lessB (u:=.ls []) (by kernel_rfl))
  |cons w r=>grind[RD]
noncomputable abbrev wy:AObj:=.row 8 false 0 [.agg [iV 0,iV 0,iV 0,iV 0,.str [],.nils,.nils,.nils]]
theorem Hx:∀(u:TUnit),nU u≤2^20→(∀x,x∈bu u→x.head.length<2^30∧x.words.length<2^30)→kP 29 [eU u] (eU u):=by
  refine TUnit.ind fun u ih hn ht=>?_
  have hkl:=bf u
  have c1:=ri u.head (ht u (dh u)).1
  have c2:=ri u.words (ht u (dh u)).2
  have ihk:∀k,k∈u.kids→kP 29 [eU k] (eU k):=fun k hk=>ih k hk (bT (tK (iH hk)) hn) (fun x hx=>ht x (bH hk hx))
  have rr0 b' (h:(u.kids.map aV)=b':=by first|rfl|(rw[←hj0];rfl)|(rw[←hj0.2.2.1,ec])):=h;let q1:=List.map aQ u.words;let q2:=List.map aQ u.head;exact bM Tryz.func29<|Kp 3 c1<|Kp 1 c2<|Kl 7 16 (ln aV u.kids)<|Mg 0<|kr Nat Nat (List TUnit) aV u.kids [1,2,3,15,16,17] (fun a _=>([bJ 0 0 0 0,bJ 1 0 0 0,ab,aW<|u.kids.map aV,nV u.kids.length,nV a],[aZ 8 false 0 [ay [iV u.act,iV u.item,iV u.n,iV u.kind,aj u.label,aW<|u.head.map aQ,aW<|u.words.map aQ,aW<|u.kids.map aV]],aZ 8 false 0 [ay [iV 0,iV 0,iV 0,iV 0,aj [],ab,ab,ab]]])) (fun a _ b c d=>([bJ 0 0 0 0,bJ 1 0 0 0,aE 2 b 0 c none,aW<|u.kids.map aV,nV u.kids.length,nV a],[aZ 8 false 0 [ay [iV u.act,iV u.item,iV u.n,iV u.kind,aj u.label,aW<|u.head.map aQ,aW<|u.words.map aQ,aW<|u.kids.map aV]],aZ 8 false 0 [ay [iV 0,iV 0,iV 0,iV 0,aj [],ab,ab,ab]],aZ 8 true b<|d.map aV])) (fun a=>a=u.kids) (fun a _ b c=>b=c.length∧(0:Nat)<c.length∧c++a=u.kids∧c.length+a.length=u.kids.length) (by rfl) (fun _ _ _ _ _ a hj0=>Kh 0 a<|Kl 0 27 bL<|Kf 3 (bQ (lc<|lc<|lc<|lc<|lc<|lc<|lc<|.cons (cV<|rr0 []) .nil)<|by kernel_rfl:Le _ (AV.agg [iV u.act,iV u.item,iV u.n,iV u.kind,AV.str u.label,AV.ls q2,AV.ls q1,AV.ls []]))) (fun a _ _ b c d _ e f g _ i _=>have i:=(i).trans<|congrArg some<|aO c;have hj0:=ch (J:=fun a _=>a=u.kids) (a:=()) f b;Kt 0 g<|Mx i<|Kp 4 (ihk c gR)<|K1 1 (.obj 3<|aZ 8 true 0<|List.map aV [c]) (congrArg (aZ 8 true 0)<|F4 (f:=aV) (g:=Go.Ev.eU) (ws:=[c]) aO)<|Kl 1 26 (dq a)<|K1 0 (.ren [0,1,3,2] [3] [1,2,3,15,16,17]) (tS 8 true 0<|aX iY [c])<|M1 (.frz 3 [1,2,3,15,16,17]) (jc (tR 8 true 0 3<|aX iY [c]) rt rt ti)<|Mf<|e 0 1 [c]<|by(refine⟨rfl,by simp,?_,?_⟩<;>(rw[←hj0])<;>(first|rfl|grind))) (fun _ _ a b c _ _ _ d hj0=>let e:=List.map aV c;Kh 0 d<|Mg 0<|M2 (.fsl 2 [1,2] 27 e) (b6 rt rt ti) (b6 (aY a) (tA aV c b (oA:(c).length=b))<|aX iY c)<|Ml 27 (eT e false<|aX iY c)<|Kf 3 (bQ (lc<|lc<|lc<|lc<|lc<|lc<|lc<|.cons (cV<|rr0 e) .nil)<|by kernel_rfl:Le _ (AV.agg [iV u.act,iV u.item,iV u.n,iV u.kind,AV.str u.label,AV.ls q2,AV.ls q1,AV.ls e]))) fun a _ b c d _ e f g _ i j l _ n _=>have n:=(n).trans<|congrArg some<|aO f;have hj0:=ch (J:=fun a b=>b.2.1=b.2.2.length∧(0:Nat)<b.2.2.length∧b.2.2++a=u.kids∧b.2.2.length+a.length=u.kids.length) (a:=(b,c,d)) j e;Kt 0 l<|Mx n<|Kp 4 (ihk f gR)<|K1 0 .app (b6 (aY b) (sA:c=(d.map aV).length) (by(refine aM (m:=2^21) ?_ ?_ ?_<;>omega):small (c+1) 120=true))<|M1 (.obj 2<|aZ 8 true (b+1)<|(d++[f]).map aV) (congrArg (aZ 8 true<|b+1)<|yJ (f:=aV) (g:=Go.Ev.eU) (l:=d) (ws:=[f]) aO)<|Kl 1 26 (dq a)<|K1 0 (.frz 3 [1,2,3,15,16,17]) (jc (tR 8 true (b+1) 3<|aX iY<|d++[f]) rt rt ti)<|Mf<|i (b+1) (c+1) (d++[f])<|by(refine⟨by simp_all,by simp,?_,?_⟩<;>first|(rw[←hj0.2.2.1];simp;done)|grind)
theorem WM(p:PId)(u:TUnit)(h:By (bB p u) true)(hn:nU u≤2^20)(ht:∀x,x∈bu u→x.head.length<2^30∧x.words.length<2^30):kP 17 [eU u,aK p] (.tuple [eU (dA p u),.bool true]):=by
  have hw:=E1 p u h hn
  have hlen:=mY (p:=p) u
  have hpos:0<(aG p u).length:=pA.2 (lq h)
  have hm:dA p u∈bu u:=JI u _ (Q8 h)
  have hf:dA p u=gD (aG p u) ((aG p u).length -1):=by unfold dA;simp_all
  have hc:=Hx (dA p u) (bT (dP hm) hn) (fun x hx=>ht x (by
    grind[jX]))
  rw[hf]at hc ⊢
  have hz:=Rx hpos
  exact bM Tryz.func17<|Kp 5 hw<|Kl 2 11 (ln aV<|aG p u)<|Kh 0 hz<|Kl 2 16 (ln aV<|aG p u)<|Kl 0 17 (sk (aG p u).length)<|Mx ((aI aV (oA:(aG p u).length -1<(aG p u).length)).trans<|congrArg some<|aO _)<|Kp 0 hc<|Kf 1<|bp<|b9 [ay [iV (gD (aG p u)<|(aG p u).length -1).act,iV (gD (aG p u)<|(aG p u).length -1).item,iV (gD (aG p u)<|(aG p u).length -1).n,iV (gD (aG p u)<|(aG p u).length -1).kind,aj (gD (aG p u)<|(aG p u).length -1).label,aW<|List.map aQ (gD (aG p u)<|(aG p u).length -1).head,aW<|List.map aQ (gD (aG p u)<|(aG p u).length -1).words,aW<|List.map aV (gD (aG p u)<|(aG p u).length -1).kids],eS true]
theorem WO(p:PId)(u:TUnit)(h:By (bB p u) false)(hn:nU u≤2^20):kP 17 [eU u,aK p] (.tuple [eU bd,.bool false]):=by
  have hw:=JH p u h hn
  exact bM Tryz.func17<|Kp 5 hw<|Kf 7 (cH<|.cons (bQ (lc<|lc<|lc<|lc<|lc<|.cons bL<|.cons bL<|.cons bL .nil)<|by kernel_rfl)<|lc .nil:Le _ (b9 [ay [iV 0,iV 0,iV 0,iV 0,aj [],ab,ab,ab],eS false]))
theorem Q7(p:PId)(u:TUnit)(hn:nU u≤2^20)(ht:∀x,x∈bu u→x.head.length<2^30∧x.words.length<2^30):kP 17 [eU u,aK p] (.tuple [eU (dA p u),.bool (bB p u)]):=by
  cases h:bB p u with
  |true=>grind[WM]
  | false=>
    have:=WO p u h hn
    rwa[show bd=dA p u by unfold dA;simp_all]at this
theorem ifW(l:List PWord)(g:Nat)(q:PWord→Bool)(hp:∀k,k∈l→kP g [aQ k] (.bool (q k)))(hl:l.length<2^40):kP 269 [.ls (l.map aQ),.func (.func g) [] []] (iV (dE q l 0)):=by
  have rr0 b' (h:(dE q l 0)=b':=by first|exact my zd0 hr0 hj0 ‹_› |exact hj0):=h;exact bM Tryz.func269<|Kl 2 7 (ln aQ l)<|Mg 0<|tJ aQ l [0,1,7,8] (fun a _=>([aW<|l.map aQ,bU (bY g) [] [],nV l.length,nV a],[])) (fun a=>dE q l (0:Nat)=dE q a (l.length-a.length)) sA (fun _ _ zd0 _ hr0 a hj0=>Kh 0 a<|Kf 0<|li<|rr0 (-1)) fun a _ zd0 _ b c d hr0 e _ f hj0=>Kt 0 e<|Kx 4 f<|Kp 0 (hp b<|by exact aN zd0 hr0)<|Mb (q b) (fun _=>Kf 1<|li<|rr0<|Int.ofNat a) fun _=>Kl 0 18 (dq a)<|Kf 0<|d<|by exact ke zd0 hr0 hj0 (by omega)
theorem cfW(l:List PWord)(g:Nat)(q:PWord→Bool)(hp:∀k,k∈l→kP g [aQ k] (.bool (q k)))(hl:l.length<2^40):kP 241 [.ls (l.map aQ),.func (.func g) [] []] (.bool (l.any q)):=by
  have h:=ifW l g q hp hl
  have rr0 b' (h:(l.any q)=b':=by(rw[lg];simp only[aS,ax,bS,rL])):=h;exact bM Tryz.func241<|Kp 2 h<|Kf 1<|cb<|rr0<|ax<|aC (dE q l 0) 0
theorem Cl(w:PWord):kP 240 [aQ w] (.bool (pW w)):=by
  exact bM Tryz.func240<|Kv 4 (DA ((Tryz.prog).underlying 89) w.act w.item w.at_ 0 0 0<|av [aZ 4 false 0 [ay [aj w.text,iV w.act,iV w.item,iV w.at_]]])<|Kf 0<|bp<|eS<|ax<|ah w.act 0&&(ah w.item 0&&ah w.at_ 0)
theorem R5(u:TUnit)(h1:u.head.length<2^40)(h2:u.words.length<2^40):kP 239 [eU u] (.bool (DW u)):=by
  have c1:=cfW u.head 240 pW (fun k _=>Cl k) h1
  have c2:=cfW u.words 240 pW (fun k _=>Cl k) h2
  have rr0 b' (h:(DW u)=b':=by(simp only[DW,fL,bj,bq,b0,aS,ax,bS, *];first|done|rfl)):=h;exact bM Tryz.func239<|Kv 5 (kB ((Tryz.prog).underlying 24) u.act u.item u.n 0 0 0<|av [aZ 8 false 0 [ay [iV u.act,iV u.item,iV u.n,iV u.kind,aj u.label,aW<|u.head.map aQ,aW<|u.words.map aQ,aW<|u.kids.map aV]]])<|Kb 0 (ah u.act 0&&(ah u.item 0&&ah u.n 0)) (fun a=>Kt 0 a<|Kt 0 a<|Kt 0 a<|Mp c1<|Mt a<|Ku 0 a<|Kn 0 (u.head.any pW) (fun a=>Kt 0 (bo a)<|Kt 0 (bo a)<|Kt 0 (bo a)<|Mp c2<|Mt (bo a)<|Ku 0 (bo a)<|Kf 0<|cb<|rr0<|ax<|u.words.any pW) fun a=>Mh (bw a)<|Mh (bw a)<|Mh (bw a)<|Mh (bw a)<|My (bw a)<|Ky 0<|rr0 false) fun a=>Mh a<|Mh a<|Mh a<|Mh a<|My a<|Ky 2<|rr0 false
theorem Xd(u:TUnit)(h:mD u):kP 215 [eU u] (.bool (Hp u)):=by
  have e1:=xG u h
  have e2:=Lb 239 DW u (fun x hx=>by
      obtain⟨a,b,_⟩:=h.2 x hx
      grind[R5]) (by have h1:=bf u;have h3:=h.1;omega) (fun x hx=>by
      have h1:=bf x
      have h2:=dP hx
      have h3:=h.1
      omega)
  have rr0 b' (h:(Hp u)=b':=by(simp only[Hp,aS,ax,bS, *];first|done|rfl)):=h;exact bM Tryz.func215<|Kp 2 e1<|Kb 0 (kO u) (fun c=>Kt 0 c<|Mp e2<|MV c<|Kf 0<|cb<|rr0<|wV DW u) fun c=>Mh c<|My c<|Ky 0<|rr0 false
theorem MT(p:PId)(u:TUnit)(hh:bB p u=false)(hn:nU u≤2^20):kP 18 [eU u,aK p] (.tuple [aK b0,iV (-1),.bool false]):=by
  have hw:=JH p u hh hn
  exact bM Tryz.func18<|Kp 6 hw<|Kf 8<|bp<|b9 [ay [iV 0,iV 0,iV 0],iV (-1),eS false]
theorem MS(p:PId)(u:TUnit)(hh:bB p u=true)(hl:aC (Int.ofNat (aG p u).length) 2=true)(hn:nU u≤2^20):kP 18 [eU u,aK p] (.tuple [aK b0,iV (-1),.bool false]):=by
  have hw:=E1 p u hh hn
  exact bM Tryz.func18<|Kp 6 hw<|Kl 2 14 (ln aV<|aG p u)<|Kt 0 hl<|Kf 3<|bp<|b9 [ay [iV 0,iV 0,iV 0],iV (-1),eS false]
theorem Pp(p:PId)(u:TUnit)(h:iK p u=false)(hn:nU u≤2^20):kP 18 [eU u,aK p] (.tuple [aK b0,iV (-1),.bool false]):=by
  grind[MT,MS,iK]
theorem Pn(p:PId)(u:TUnit)(h:iK p u=true)(hn:nU u≤2^20):kP 18 [eU u,aK p] (.tuple [aK (rF p u),iV (pM p u),.bool true]):=by
  have hl:aC (Int.ofNat (aG p u).length) 2=false:=by grind[iK]
  have hl2:2≤(aG p u).length:=by have:=aD hl;grind
  have hh:bB p u=true:=by
    cases e:bB p u with
    |true=>rfl
    |false=>grind[QD]
  have hw:=E1 p u hh hn
  have hlen:=mY (p:=p) u
  have hm:H5 p u∈bu u:=JI u _ (gx (by omega))
  have hkn:∀k,k∈(H5 p u).kids→nU k≤2^20:=fun k hk=>bT (dP (jX hm (LZ hk))) hn
  have hkl:(H5 p u).kids.length<2^40:=by have:=bf (H5 p u);have:=dP hm;omega
  have hi:=ZD (H5 p u).kids 31 p (bB p) (fun k hk=>by
    grind[bB,M5,M6]) hkl
  rw[Ih h,Ii h]
  generalize hG:H5 p u=y at *
  have hG2:gD (aG p u) ((aG p u).length -2)=y:=hG
  have rr0 b' (h:((bq y).a)=b':=by(rw[hG2];rfl)):=h;have rr1 b' (h:((bq y).i)=b':=by(rw[hG2];rfl)):=h;have rr2 b' (h:((bq y).n)=b':=by(rw[hG2];rfl)):=h;exact bM Tryz.func18<|Kp 6 hw<|Kl 2 14 (ln aV<|aG p u)<|Kh 0 hl<|Kl 2 19 (ln aV<|aG p u)<|Kl 0 20 (cZ (x:=Int.ofNat (aG p u).length -(2:Int)) (n:=(aG p u).length -2) eR)<|Mx ((aI aV (oA:(aG p u).length -2<(aG p u).length)).trans<|congrArg some<|aO _)<|Mg 5<|M0 (.ren [2,3,0,1] [] [4,8,24,25])<|M1 (.frz 2 [4,8,24,25]) (b6 rt rt ti)<|Mp (aR.onArgs (.cons (cV (by(rw[hG2];done):(y.kids.map aV)=(List.map aV (gD (aG p u) ((aG p u).length -2)).kids)))<|lc .nil) hi:kP 30 [aW (List.map aV (gD (aG p u) ((aG p u).length -2)).kids),bU (bY 31) [] [AV.pptr [ay [iV p.a,iV p.i,iV p.n]] 0 0]] _)<|Kf 6 (cH<|.cons (bQ (.cons (li<|rr0 (gD (aG p u)<|(aG p u).length -2).act)<|.cons (li<|rr1 (gD (aG p u)<|(aG p u).length -2).item)<|.cons (li<|rr2 (gD (aG p u)<|(aG p u).length -2).n) .nil)<|by kernel_rfl)<|lc<|lc .nil:Le _ (b9 [ay [iV (gD (aG p u) ((aG p u).length -2)).act,iV (gD (aG p u) ((aG p u).length -2)).item,iV (gD (aG p u) ((aG p u).length -2)).n],iV (dE (bB p) y.kids 0),eS true]))
theorem Po(p:PId)(u:TUnit)(hn:nU u≤2^20):kP 18 [eU u,aK p] (.tuple [aK (rF p u),iV (pM p u),.bool (iK p u)]):=by
  grind[iK,Pn,V8,Ps,Pp]
theorem Y7(p:PId)(u:TUnit)(h:bB p u=false)(hn:nU u≤2^20):kP 201 [eU u,aK p] (.ls ((pR p u).map aK)):=by
  have hw:=JH p u h hn
  have e:pR p u=[]:=by unfold pR;rw[AZ h];rfl
  rw[e]
  let q:=[aZ 8 false 0 [ay [iV u.act,iV u.item,iV u.n,iV u.kind,aj u.label,aW (u.head.map aQ),aW (u.words.map aQ),aW (u.kids.map aV)]],aZ 3 false 0 [ay [iV p.a,iV p.i,iV p.n]]];let q1:=[ab,ab,iV (IntKind.i64.wrap (0-2))];exact bM Tryz.func201<|Kp 5 hw<|Mg 4<|ZJ [5,6,7] (q1,q) True 0 ti fun _ _=>Kf 4 bL
theorem Y6(p:PId)(u:TUnit)(h:bB p u=true)(hn:nU u≤2^20):kP 201 [eU u,aK p] (.ls ((pR p u).map aK)):=by
  have hw:=E1 p u h hn
  have hlen:=mY (p:=p) u
  have hpos:0<(aG p u).length:=pA.2 (lq h)
  have hac:=DK p u
  have rr0 b' (h:((pR p u).map aK)=b':=by first|rfl|(rw[Sq hx0 ‹_›];rfl)|(rw[Sz hx0.2.1 oA ‹_›])):=h;exact bM Tryz.func201<|Kp 5 hw<|Kl 0 6 (eT ((aG p u).map aV) false<|aX iY<|aG p u)<|Kl 1 12 (ln aV<|aG p u)<|Kl 0 13 (Le.wr (x:=Int.ofNat (aG p u).length -2) eR)<|K1 0 (.frz 0 [5,6,7]) ti<|Sg Int Nat Nat (List PId) (Int.ofNat (aG p u).length -2) [5,6,7] (fun a=>([ab,aW<|(aG p u).map aV,iV a],[])) (fun a b c d=>([aE 0 b 0 c none,aW<|(aG p u).map aV,iV a],[aZ 3 true b<|d.map aK])) (fun a=>a=Int.ofNat (aG p u).length -(2:Int)) (fun a _ b c=>b=c.length∧c=oC p u (a+(1:Int)).toNat∧((-1):Int)≤a∧a+(2:Int)≤↑(aG p u).length∧c.length≤(aG p u).length) (fun a=>(a+1).toNat) (fun a _ _ _=>(a+1).toNat) (by rfl) (fun a hx0 _ b=>have hx0:=hx0;Kd 1 a 0 (fun _ _=>Kl 2 20 (BK (x:=a) oA)<|Mx ((aI aV (gR:a.toNat<(aG p u).length)).trans<|congrArg some<|aO _)<|Kl 6 17 (Le.wr (x:=a-1) eR)<|Kf 0<|b (a-1) 0 1 [PId.mk (gD (aG p u) a.toNat).act (gD (aG p u) a.toNat).item (gD (aG p u) a.toNat).n] (by exact⟨rfl,N6 hx0 (by omega),by omega,by grind,by grind⟩) oA) fun _ _=>Kf 1 (Le.lsn<|rr0 []:Le _ (ab))) fun a b c d hx0 _ e=>have hx0:=hx0;Kd 1 a 0 (fun _ _=>Kl 2 20 (BK (x:=a) oA)<|Mx ((aI aV (oA:a.toNat<(aG p u).length)).trans<|congrArg some<|aO _)<|K1 2 .app (b6 (aY b) (sA:c=(d.map aK).length) (by(refine aM (m:=2^21) ?_ ?_ ?_<;>omega):small (c+1) 24=true))<|M1 (.obj 0<|aZ 3 true (b+1)<|(d++[PId.mk (gD (aG p u) a.toNat).act (gD (aG p u) a.toNat).item (gD (aG p u) a.toNat).n]).map aK) (congrArg (aZ 3 true<|b+1)<|co (f:=aK) (l:=d) (ws:=[PId.mk (gD (aG p u) a.toNat).act (gD (aG p u) a.toNat).item (gD (aG p u) a.toNat).n]))<|Kl 2 17 (Le.wr (x:=a-1) eR)<|Kf 0<|e (a-1) (b+1) (c+1) (d++[PId.mk (gD (aG p u) a.toNat).act (gD (aG p u) a.toNat).item (gD (aG p u) a.toNat).n]) (by exact⟨by simp_all,HB hx0.2.1 hx0.2.2.2.1 (by omega),by omega,by omega,by(have z:=HB hx0.2.1 hx0.2.2.2.1 (by omega);grind)⟩) oA) fun _ _=>Mg 1<|M2 (.fsl 0 [] 4<|d.map aK) ti (b6 (aY b) (tA aK d c (oA:(d).length=c))<|aX Jz d)<|Ml 4 (eT (d.map aK) false<|aX Jz d)<|Mf<|cV<|rr0<|d.map aK
theorem HA(p:PId)(u:TUnit)(hn:nU u≤2^20):kP 201 [eU u,aK p] (.ls ((pR p u).map aK)):=by
  grind[Y6,Y7]
end Go.Proofs.YtjokefckffbpeaaGreatDoor
