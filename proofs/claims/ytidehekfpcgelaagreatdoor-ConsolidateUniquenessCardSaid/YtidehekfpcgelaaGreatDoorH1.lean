/- Functions walked: what each of them answers, for the law of uniqueness: part 1. Conditions: those that each theorem names. -/
import Derived.Test.YtidehekfpcgelaaGreatDoorCmb
import Derived.Test.YtidehekfpcgelaaGreatDoorLay
import Derived.Test.YtidehekfpcgelaaGreatDoorLay2
namespace Go.Proofs.YtidehekfpcgelaaGreatDoor
open Go Go.Ev
noncomputable abbrev bT:=@Le.bool
noncomputable abbrev aW:=@AV.ls
noncomputable abbrev aw:=@AV.agg
noncomputable abbrev aj:=@AV.str
noncomputable abbrev bv:=@AV.func
noncomputable abbrev bw:=@Fn.func
noncomputable abbrev fG:=@Le.ps
noncomputable abbrev kM:=@AV.ps
noncomputable abbrev bu:=@Le.refl
noncomputable abbrev fK:=@AV.bool
noncomputable abbrev cH:=@Le.tuple
noncomputable abbrev cn:=@AV.tuple
noncomputable abbrev ab:=@AV.nils
noncomputable abbrev aZ:=@AObj.row
noncomputable abbrev dN:=@Tt
noncomputable abbrev bK:=@AV.ptr
noncomputable abbrev aN:=@AV.slice
noncomputable abbrev bM:=@Le.nils
noncomputable abbrev abj:=@ARes.val
noncomputable def qH(x:PWord):Bool:=az (ao 100 (.ofNat x.text.length))
noncomputable def nX(ws:List PWord):Bool:=ws.all qH&&az (ao 300 (.ofNat ws.length))
theorem G3(x:Int):kP 213 [iV x] (.bool false):=by
  have rr0 b' (h:(false)=b':=by simp[ba]):=h;exact wk Tryz.func213 (.go 4 .fin)<|bT<|rr0<|az<|ak x x
theorem pO(x y:Int):kP 114 [iV x,iV y] (iV (kW x y)):=by
  have rr0 b' (h:(kW x y)=b':=by simp[kW, *]):=h;exact bF Tryz.func114<|Kp 1 (G3 x)<|Kp 1 (G3 y)<|Kb 7 (ao x y) (fun _=>Kf 0<|li<|rr0 (-1)) fun _=>Kb 2 (ao y x) (fun _=>Kf 0<|li<|rr0 1) fun _=>Kf 0<|li<|rr0 0
theorem GJ(ws:List PWord)(hl:ws.length<2^60):kP 261 [.ls (ws.map aQ)] (.bool (nX ws)):=by
  have rr0 b' (h:(nX ws)=b':=by simp only[nX,qH,aS,az,bS, *]):=h;exact bF Tryz.func261<|Mg 1<|wg aQ ws [0,3] (fun a _=>([aW<|ws.map aQ,nV a],[])) (fun a=>ws.all qH=a.all qH) (by rfl) (fun _ _ _ _ _ a _=>Kl 2 6 (ln aQ ws)<|Kh 0 a<|Kl 1 18 (ln aQ ws)<|Kf 1<|bT<|rr0<|az<|ao 300<|Int.ofNat ws.length) fun a _ _ _ b c d _ e _ f _=>Kl 2 6 (ln aQ ws)<|Kt 0 e<|Kx 1 f<|Ka 3 100 (Int.ofNat<|List.length b.text) (fun _ _=>Ky 0<|rr0 false) fun _ _=>Kl 1 9 (dm a)<|Kf 0<|d<|by simp_all[qH]
mutual
noncomputable def lW:TUnit→Bool
  |⟨_,_,_,_,label,h,w,kids⟩=>az (ao 30 (.ofNat label.length))&&nX h&&nX w&&yL kids
noncomputable def yL:List TUnit→Bool
  |[]=>true
  |u::r=>lW u&&yL r
end
theorem Cq:∀(l:List TUnit),yL l=l.all lW
  |[]=>by rw[yL];rfl
  |u::r=>by rw[yL,Cq r];rfl
theorem Cz(u:TUnit):lW u=(az (ao 30 (.ofNat u.label.length))&&nX u.head&&nX u.words&&u.kids.all lW):=by
  obtain⟨a,b,c,d,e,f,g,h⟩:=u
  rw[lW,Cq];rfl
theorem Pz:∀(u:TUnit),tw u→kP 185 [eU u] (.bool (lW u)):=by
  refine TUnit.ind fun u ih hf=>?_
  obtain⟨f1,f2,f3,f4⟩:=ry.1 hf
  have rr0 b' (h:(lW u)=b':=by rw[Cz];simp only[aS,az,bS, *]):=h;exact bF Tryz.func185<|Ka 6 30 (Int.ofNat<|List.length u.label) (fun a _=>Mt a<|Mt a<|Mt a<|MV a<|Ky 3<|rr0 false) fun a _=>Kh 0 a<|Kh 0 a<|Mp (GJ u.head f1)<|Mh a<|Kw 0 a<|Kn 0 (nX u.head) (fun a=>Mt (cA a)<|Mt (cA a)<|Mt (cA a)<|MV (cA a)<|Ky 1<|rr0 false) fun a=>Kh 0 (cw a)<|Kh 0 (cw a)<|Mp (GJ u.words f2)<|Mh (cw a)<|Kw 0 (cw a)<|Mn (nX u.words) (fun _=>Ky 0<|rr0 false) fun _=>K1 0 (.frz 0 [1,3]) ti<|wg aY u.kids [1,3] (fun a _=>([AV.pptr [aw [iV u.act,iV u.item,iV u.n,iV u.kind,aj u.label,aW<|u.head.map aQ,aW<|u.words.map aQ,aW<|u.kids.map aY]] 0 0,nV a],[])) (fun a=>u.kids.all lW=a.all lW) (by rfl) (fun _ _ _ _ _ a _=>Kl 3 23 (ln aY u.kids)<|Kh 0 a<|Ky 0<|rr0 true) fun a _ b _ c d e f g _ i _=>have i:=i.trans<|congrArg some<|aD c;Kl 3 23 (ln aY u.kids)<|Kt 0 g<|Kx 2 i<|Kp 0 (ih c (by exact aG b f)<|by exact f4 _ (aG b f))<|Kn 0 (lW c) (fun _=>Kf 0<|bT<|rr0 false) fun _=>Kl 1 26 (dm a)<|Kf 0<|e sA
mutual
noncomputable def nQ:TUnit→Int→Int→Int
  |⟨_,_,_,_,_,_,_,kids⟩,deep,most=>match ao 20 deep with|true=>most+1|false=>nZ kids deep most 1
noncomputable def nZ:List TUnit→Int→Int→Int→Int
  |[],_,_,n=>n
  |k::r,deep,most,n=>match ao most n with|true=>n|false=>nZ r deep most (n+nQ k (deep+1) (most-n))
end
theorem P2(u:TUnit)(deep most:Int):nQ u deep most=match ao 20 deep with|true=>most+1|false=>nZ u.kids deep most 1:=by
  obtain⟨a,b,c,d,e,f,g,h⟩:=u;rw[nQ];rfl
mutual
theorem GX:∀(u:TUnit)(deep most:Int),0≤most→1≤nQ u deep most∧nQ u deep most≤most+1
  | ⟨_,_,_,_,_,_,_,kids⟩,deep,most,h=>by
    rw[nQ]
    split
    · omega
    · exact GW kids deep most 1 (by omega) (by omega)
theorem GW:∀(l:List TUnit)(deep most n:Int),1≤n→n≤most+1→1≤nZ l deep most n∧nZ l deep most n≤most+1
  |[],_,_,n,h1,h2=>by grind[nZ]
  | k::r,deep,most,n,h1,h2=>by
    rw[nZ]
    split
    · omega
    · rename_i h
      have:=af h
      have:=GX k (deep+1) (most-n) (by omega)
      exact GW r deep most _ (by omega) (by omega)
end
theorem UK:∀(u:TUnit),tw u→∀(deep most:Int),0≤deep→deep≤21→0≤most→most≤2^20→kP 184 [eU u,iV deep,iV most] (iV (nQ u deep most)):=by
  refine TUnit.ind fun u ih hf deep most d1 d2 m1 m2=>?_
  obtain⟨f1,f2,f3,f4⟩:=ry.1 hf
  have rr0 b' (h:(nQ u deep most)=b':=by rw[P2];simp only[nZ,aS,az,bS, *]):=h;exact bF Tryz.func184<|Ka 3 20 deep (fun _ _=>Kl 1 12 (Le.wr (x:=most+1) eB)<|Kf 0<|li<|rr0<|most+1) fun _ _=>K1 1 (.frz 0 [1,2,3,7,8]) ti<|M9 aY u.kids (1:Int) [1,2,3,7,8] (fun a _ b=>([iV deep,iV most,AV.pptr [aw [iV u.act,iV u.item,iV u.n,iV u.kind,aj u.label,aW<|u.head.map aQ,aW<|u.words.map aQ,aW<|u.kids.map aY]] 0 0,iV b,nV a],[])) (fun a b=>(1:Int)≤b∧b≤most+(1:Int)∧nZ u.kids deep most (1:Int)=nZ a deep most b) oA (fun _ _ a _ _ _ b _=>Kl 3 16 (ln aY u.kids)<|Kh 1 b<|Mh b<|Mh b<|My b<|Kf 2<|li<|rr0 a) fun a _ b c _ d e f g i _ j _=>have j:=j.trans<|congrArg some<|aD d;Kl 3 16 (ln aY u.kids)<|Kt 1 i<|Kt 0 i<|Kt 0 i<|Ku 0 i<|Mn (ao most b) (fun i=>have:=af i;Kx 3 j<|Kl 2 32 (Le.wr (x:=deep+1) eB)<|Kl 2 35 (Le.wr (x:=most-b) eB)<|Mp (ih d (by exact aG c g) (by exact f4 _ (aG c g)) (deep+1) (most-b) oA oA oA oA)<|have:=GX d (deep+1) (most-b) oA;Kl 0 37 (Le.wr (x:=b+nQ d (deep+1) (most-b)) eB)<|Kl 2 24 (dm a)<|Kf 0<|f (b+nQ d (deep+1) (most-b))<|by(refine⟨by omega,by omega,?_⟩;first|rfl|grind[nZ])) fun a=>have:=ae a;Kf 1<|li<|rr0 b
noncomputable def Hu(u:TUnit)(most:Int):Bool:=az (ao most (nQ u 0 most))&&lW u
theorem VP(u:TUnit)(most:Int)(hf:tw u)(m1:0≤most)(m2:most≤2^20):kP 90 [eU u,iV most] (.bool (Hu u most)):=by
  have rr0 b' (h:(Hu u most)=b':=by simp only[Hu,aS,az,bS, *]):=h;exact bF Tryz.func90<|Kp 3 (UK u hf 0 most oA oA m1 m2)<|Kn 2 (ao most<|nQ u 0 most) (fun a=>Kt 0 (cA a)<|Mp (Pz u hf)<|MV (cA a)<|Kf 0<|bT<|rr0<|lW u) fun a=>Mh (cw a)<|My (cw a)<|Ky 0<|rr0 false
noncomputable def xN(s:aE):Bool:=az (ao 100 (.ofNat s.length))
noncomputable def xM(s:PStep):Bool:=az (ao 100 (.ofNat s.label.length))
noncomputable def yn(x:PItem):Bool:=
  az (ao 12 (.ofNat x.at_.length))&&az (ao 12 (.ofNat x.to.length))&&az (ao 300 (.ofNat x.old.length))&&az (ao 300 (.ofNat x.new.length))&&az (ao 100 (.ofNat x.label.length))&&az (ao 100 (.ofNat x.for_.length))
  &&az (ao 100 (.ofNat x.start.event.length))&&az (ao 100 (.ofNat x.event.length))&&az (ao 2 (.ofNat x.by_.length))&&Hu x.unit 30
noncomputable def H3(y:PItem):Bool:=ao 0 (.ofNat y.by_.length)&&ao 0 (.ofNat (gD y.by_ 0).by_.length)
mutual
noncomputable def nl:PItem→Bool
  |⟨k,a,t,w,nn,u,o,n,lb,fo,st,ac,it,dy,ev,by_⟩=>yn ⟨k,a,t,w,nn,u,o,n,lb,fo,st,ac,it,dy,ev,by_⟩&&(o.all xN&&(n.all xN&&(a.all xM&&(t.all xM&&HB by_))))
noncomputable def HB:List PItem→Bool
  |[]=>true
  |u::r=>(az (H3 u)&&nl u)&&HB r
end
noncomputable def Iq(y:PItem):Bool:=az (H3 y)&&nl y
theorem HA:∀(l:List PItem),HB l=l.all Iq
  |[]=>by rw[HB];rfl
  |u::r=>by rw[HB,HA r];rfl
theorem EN(x:PItem):nl x=(yn x&&(x.old.all xN&&(x.new.all xN&&(x.at_.all xM&&(x.to.all xM&&x.by_.all Iq))))):=by
  obtain⟨k,a,t,w,nn,u,o,n,lb,fo,st,ac,it,dy,ev,by_⟩:=x
  rw[nl,HA];rfl
theorem VS:∀(x:PItem),nL x→kP 54 [eI x] (.bool (nl x)):=by
  refine PItem.ind fun x ih hf=>?_
  obtain⟨f1,f2,f3,f4,f5,f6,f7⟩:=ra.1 hf
  have hu:kP 90 [eU x.unit,iV 30] (.bool (Hu x.unit 30)):=VP x.unit 30 f6 (by omega) (by omega)
  have rr0 b' (h:(nl x)=b':=by rw[EN,yn];simp only[Iq,H3,xN,xM,aS,az,bS, *]):=h;exact bF Tryz.func54<|Kl 4 10 (ln ax x.at_)<|Ka 1 12 (Int.ofNat x.at_.length) (fun a _=>Mt a<|Mt a<|Mt a<|MV a<|Ky 17<|rr0 false) fun a _=>Kh 0 a<|Kh 0 a<|Kl 0 15 (ln ax x.to)<|Mh a<|Kw 0 a<|Ka 0 12 (Int.ofNat x.to.length) (fun a _=>Mt a<|Mt a<|Mt a<|MV a<|Ky 15<|rr0 false) fun a _=>Kh 0 a<|Kh 0 a<|Kl 0 21 (ln nr x.old)<|Mh a<|Kw 0 a<|Ka 0 300 (Int.ofNat x.old.length) (fun a _=>Mt a<|Mt a<|Mt a<|MV a<|Ky 13<|rr0 false) fun a _=>Kh 0 a<|Kh 0 a<|Kl 0 27 (ln nr x.new)<|Mh a<|Kw 0 a<|Ka 0 300 (Int.ofNat x.new.length) (fun a _=>Mt a<|Mt a<|Mt a<|MV a<|Ky 11<|rr0 false) fun a _=>Kh 0 a<|Kh 0 a<|Kh 0 a<|Kw 0 a<|Ka 0 100 (Int.ofNat<|List.length x.label) (fun a _=>Mt a<|Mt a<|Mt a<|MV a<|Ky 9<|rr0 false) fun a _=>Kh 0 a<|Kh 0 a<|Kh 0 a<|Kw 0 a<|Ka 0 100 (Int.ofNat<|List.length x.for_) (fun a _=>Mt a<|Mt a<|Mt a<|Mt a<|MV a<|Ky 7<|rr0 false) fun a _=>Kh 0 a<|Kh 0 a<|Kh 0 a<|Kh 0 a<|Kw 0 a<|Ka 0 100 (Int.ofNat<|List.length x.start.event) (fun a _=>Mt a<|Mt a<|Mt a<|MV a<|Ky 5<|rr0 false) fun a _=>Kh 0 a<|Kh 0 a<|Kh 0 a<|Kw 0 a<|Ka 0 100 (Int.ofNat<|List.length x.event) (fun a _=>Mt a<|Mt a<|Mt a<|MV a<|Ky 3<|rr0 false) fun a _=>Kh 0 a<|Kh 0 a<|Kl 0 58 (ln Ot x.by_)<|Mh a<|Kw 0 a<|Ka 0 2 (Int.ofNat x.by_.length) (fun a _=>Mt a<|Mt a<|Mt a<|MV a<|Ky 1<|rr0 false) fun a _=>Kh 0 a<|Kh 0 a<|Mp hu<|Mh a<|Kw 0 a<|Mn (Hu x.unit 30) (fun _=>Ky 0<|rr0 false) fun _=>K1 0 (.frz 0 [1,3]) ti<|wg nr x.old [1,3] (fun a _=>([AV.pptr [aw [iV x.kind,aW<|x.at_.map ax,aW<|x.to.map ax,iV x.where_,iV x.nth_,iV x.unit.act,iV x.unit.item,iV x.unit.n,iV x.unit.kind,aj x.unit.label,aW<|x.unit.head.map aQ,aW<|x.unit.words.map aQ,aW<|x.unit.kids.map aY,aW<|x.old.map nr,aW<|x.new.map nr,aj x.label,aj x.for_,iV x.start.kind,iV x.start.day,aj x.start.event,iV x.act,iV x.item,iV x.day,aj x.event,aW<|x.by_.map Ot]] 0 0,nV a],[])) (fun a=>x.old.all xN=a.all xN) (by rfl) (fun _ _ _ _ _ a _=>Kl 3 70 (ln nr x.old)<|Kh 0 a<|Mg 0<|wg nr x.new [1,4] (fun a _=>([AV.pptr [aw [iV x.kind,aW<|x.at_.map ax,aW<|x.to.map ax,iV x.where_,iV x.nth_,iV x.unit.act,iV x.unit.item,iV x.unit.n,iV x.unit.kind,aj x.unit.label,aW<|x.unit.head.map aQ,aW<|x.unit.words.map aQ,aW<|x.unit.kids.map aY,aW<|x.old.map nr,aW<|x.new.map nr,aj x.label,aj x.for_,iV x.start.kind,iV x.start.day,aj x.start.event,iV x.act,iV x.item,iV x.day,aj x.event,aW<|x.by_.map Ot]] 0 0,nV a],[])) (fun a=>x.new.all xN=a.all xN) (by rfl) (fun _ _ _ _ _ a _=>Kl 3 84 (ln nr x.new)<|Kh 0 a<|Mg 0<|wg ax x.at_ [1,5] (fun a _=>([AV.pptr [aw [iV x.kind,aW<|x.at_.map ax,aW<|x.to.map ax,iV x.where_,iV x.nth_,iV x.unit.act,iV x.unit.item,iV x.unit.n,iV x.unit.kind,aj x.unit.label,aW<|x.unit.head.map aQ,aW<|x.unit.words.map aQ,aW<|x.unit.kids.map aY,aW<|x.old.map nr,aW<|x.new.map nr,aj x.label,aj x.for_,iV x.start.kind,iV x.start.day,aj x.start.event,iV x.act,iV x.item,iV x.day,aj x.event,aW<|x.by_.map Ot]] 0 0,nV a],[])) (fun a=>x.at_.all xM=a.all xM) (by rfl) (fun _ _ _ _ _ a _=>Kl 3 98 (ln ax x.at_)<|Kh 0 a<|Mg 0<|wg ax x.to [1,6] (fun a _=>([AV.pptr [aw [iV x.kind,aW<|x.at_.map ax,aW<|x.to.map ax,iV x.where_,iV x.nth_,iV x.unit.act,iV x.unit.item,iV x.unit.n,iV x.unit.kind,aj x.unit.label,aW<|x.unit.head.map aQ,aW<|x.unit.words.map aQ,aW<|x.unit.kids.map aY,aW<|x.old.map nr,aW<|x.new.map nr,aj x.label,aj x.for_,iV x.start.kind,iV x.start.day,aj x.start.event,iV x.act,iV x.item,iV x.day,aj x.event,aW<|x.by_.map Ot]] 0 0,nV a],[])) (fun a=>x.to.all xM=a.all xM) (by rfl) (fun _ _ _ _ _ a _=>Kl 3 113 (ln ax x.to)<|Kh 0 a<|Mg 0<|wg Ot x.by_ [1,7] (fun a _=>([AV.pptr [aw [iV x.kind,aW<|x.at_.map ax,aW<|x.to.map ax,iV x.where_,iV x.nth_,iV x.unit.act,iV x.unit.item,iV x.unit.n,iV x.unit.kind,aj x.unit.label,aW<|x.unit.head.map aQ,aW<|x.unit.words.map aQ,aW<|x.unit.kids.map aY,aW<|x.old.map nr,aW<|x.new.map nr,aj x.label,aj x.for_,iV x.start.kind,iV x.start.day,aj x.start.event,iV x.act,iV x.item,iV x.day,aj x.event,aW<|x.by_.map Ot]] 0 0,nV a],[])) (fun a=>x.by_.all Iq=a.all Iq) (by rfl) (fun _ _ _ _ _ a _=>Kl 3 128 (ln Ot x.by_)<|Kh 0 a<|Ky 0<|rr0 true) fun a _ b _ c d e f g _ i _=>have i:=i.trans<|congrArg some<|eu c;Kl 3 128 (ln Ot x.by_)<|Kt 0 g<|Kx 2 i<|Kl 2 138 (ln Ot c.by_)<|Ka 1 0 (Int.ofNat c.by_.length) (fun g _=>Kt 0 g<|Kt 0 g<|Kt 0 g<|Mx i<|Mt g<|Kt 0 g<|Kt 0 g<|Mx ((bJ Ot (sA:0<(c.by_).length)).trans<|congrArg some<|eu _)<|Mt g<|Kt 0 g<|Kt 0 g<|Kl 0 150 (ln Ot (gD c.by_ 0).by_)<|Mt g<|Ku 0 g<|Ka 0 0 (Int.ofNat (gD c.by_ 0).by_.length) (fun a _=>Mt a<|Mt a<|Mt a<|Mt a<|Mt a<|Mt a<|MV a<|Ky 1<|rr0 false) fun g _=>Kh 0 g<|Kh 0 g<|Kh 0 g<|Mx i<|Mh g<|Kh 0 g<|Mp (ih c (by exact aG b f)<|by exact f7 _ (aG b f))<|Mh g<|Kw 0 g<|Mn (nl c) (fun _=>Kf 0<|bT<|rr0 false) fun _=>Kl 1 131 (dm a)<|Kf 0<|e<|by simp_all[Iq,H3]) fun g _=>Mh g<|Mh g<|Mh g<|Mh g<|Mh g<|Mh g<|Mh g<|Mh g<|Mh g<|Mh g<|My g<|Kx 3 i<|Kp 0 (ih c (by exact aG b f)<|by exact f7 _ (aG b f))<|Kn 1 (nl c) (fun _=>Kf 0<|bT<|rr0 false) fun _=>Kl 1 131 (dm a)<|Kf 0<|e<|by simp_all[Iq,H3]) fun a _ _ _ b c d _ e _ f _=>Kl 3 113 (ln ax x.to)<|Kt 0 e<|Kx 2 f<|Ka 3 100 (Int.ofNat<|List.length b.label) (fun _ _=>Ky 0<|rr0 false) fun _ _=>Kl 1 116 (dm a)<|Kf 0<|d<|by simp_all[xM]) fun a _ _ _ b c d _ e _ f _=>Kl 3 98 (ln ax x.at_)<|Kt 0 e<|Kx 2 f<|Ka 3 100 (Int.ofNat<|List.length b.label) (fun _ _=>Ky 0<|rr0 false) fun _ _=>Kl 1 101 (dm a)<|Kf 0<|d<|by simp_all[xM]) fun a _ _ _ b c d _ e _ f _=>Kl 3 84 (ln nr x.new)<|Kt 0 e<|Kx 2 f<|Ka 2 100 (Int.ofNat<|List.length b) (fun _ _=>Ky 0<|rr0 false) fun _ _=>Kl 1 87 (dm a)<|Kf 0<|d<|by simp_all[xN]) fun a _ _ _ b c d _ e _ f _=>Kl 3 70 (ln nr x.old)<|Kt 0 e<|Kx 2 f<|Ka 2 100 (Int.ofNat<|List.length b) (fun _ _=>Ky 0<|rr0 false) fun _ _=>Kl 1 73 (dm a)<|Kf 0<|d<|by simp_all[xN]
noncomputable def Bf(most n:Int)(a:PAct):Bool:=ao most (n+Int.ofNat a.items.length)||(ao 100 (Int.ofNat a.title.length)||(ao 60 (Int.ofNat a.start.event.length)||az (a.items.all nl)))
noncomputable def mg(most:Int):List PAct→Int→Option Int
  |[],n=>some n
  |a::r,n=>match Bf most n a with|true=>none|false=>mg most r (n+Int.ofNat a.items.length)
noncomputable def wY(g:PGaz):Bool:=ao 8 (Int.ofNat g.acts.length)||ao 60 (Int.ofNat g.prior.length)
noncomputable def uN(most:Int):List PGaz→Int→Bool
  |[],_=>true
  |g::r,n=>match wY g with|true=>false|false=>match mg most g.acts n with|none=>false|some m=>uN most r m
noncomputable def Of(gs:List PGaz)(most:Int):Bool:=match ao 8 (Int.ofNat gs.length)with|true=>false|false=>uN most gs 0
theorem VT(gs:List PGaz)(most:Int)(hf:qq gs)(m1:0≤most)(m2:most≤2^20):kP 31 [.ls (gs.map bZ),iV most] (.bool (Of gs most)):=by
  obtain⟨f0,f1⟩:=hf
  have fa:∀g,g∈gs→∀a,a∈g.acts→a.items.length<2^60:=fun g hg a ha=>((f1 g hg).2 a ha).1
  have fb:∀g,g∈gs→g.acts.length<2^60:=fun g hg=>(f1 g hg).1
  have rr0 b' (h:(Of gs most)=b':=by simp only[Of,uN,wY,mg,Bf,aS,az,bS, *]):=h;exact bF Tryz.func31<|Kl 2 11 (ln bZ gs)<|Ka 0 8 (Int.ofNat gs.length) (fun _ _=>Ky 0<|rr0 false) fun _ _=>Mg 1<|M9 bZ gs (0:Int) [0,1,5,6] (fun b _ c=>([aW<|gs.map bZ,iV most,iV c,nV b],[])) (fun b c=>(0:Int)≤c∧c≤most∧uN most gs (0:Int)=uN most b c) (by(refine⟨by omega,by omega,?_⟩;first|rfl|(simp only[uN,wY,mg,aS,az,bS, *]))) (fun _ _ _ _ _ _ b _=>Kl 2 15 (ln bZ gs)<|Kh 0 b<|Ky 0<|rr0 true) fun b _ c d _ e f i j k _ l m=>Kl 2 15 (ln bZ gs)<|Kt 0 k<|Kx 1 l<|Kl 2 24 (ln ay e.acts)<|Ka 1 8 (Int.ofNat e.acts.length) (fun b _=>Mt b<|Mt b<|Mt b<|Mt b<|Mt b<|Mt b<|MV b<|Ky 1<|rr0 false) fun k _=>Kh 0 k<|Kh 0 k<|Mx l<|Mh k<|Kh 0 k<|Kh 0 k<|Kh 0 k<|Kw 0 k<|Mb (ao 60<|Int.ofNat<|List.length e.prior) (fun b=>have:=ae b;Ky 0<|rr0 false) fun k=>have:=af k;Mg 0<|M9 ay e.acts c [0,1,5,6,7] (fun c _ d=>([aW<|gs.map bZ,iV most,iV d,nV b,nV c],[])) (fun b d=>(0:Int)≤d∧d≤most∧mg most e.acts c=mg most b d) (by(exact⟨m.1,m.2.1,rfl⟩)) (fun _ _ c _ _ _ d _=>Kx 2 l<|Kl 2 41 (ln ay e.acts)<|Kh 0 d<|Kl 1 18 (dm b)<|Kf 0<|i c<|by(refine⟨by omega,by omega,?_⟩;first|rfl|(simp only[uN,wY,mg,aS,az,bS, *]))) fun f _ i k _ m n o p q _ r _=>have:=fa e (aG d j) m<|aG k p;have:=fb e<|aG d j;Kx 2 l<|Kl 2 41 (ln ay e.acts)<|Kt 0 q<|Kx 1 l<|Kx 2 r<|Kl 6 56 (ln Ot m.items)<|Kl 0 57 (Le.wr (x:=i+Int.ofNat m.items.length) eB)<|Ka 4 most (i+Int.ofNat m.items.length) (fun b _=>Mt b<|Mt b<|Mt b<|MV b<|Ky 3<|rr0 false) fun l _=>Kh 0 l<|Kh 0 l<|Kh 0 l<|Kw 0 l<|Ka 0 100 (Int.ofNat<|List.length m.title) (fun b _=>Mt b<|Mt b<|Mt b<|Mt b<|MV b<|Ky 1<|rr0 false) fun l _=>Kh 0 l<|Kh 0 l<|Kh 0 l<|Kh 0 l<|Kw 0 l<|Mb (ao 60<|Int.ofNat<|List.length m.start.event) (fun b=>have:=ae b;Ky 0<|rr0 false) fun l=>have:=af l;K1 0 (.frz 0 [0,1,5,6,7,8,9]) ti<|wg Ot m.items [0,1,5,6,7,8,9] (fun c _=>([aW<|gs.map bZ,iV most,iV<|i+Int.ofNat m.items.length,nV b,nV f,AV.pptr [aw [iV m.number,aj m.title,iV m.day,iV m.start.kind,iV m.start.day,aj m.start.event,aW<|m.items.map Ot]] 0 0,nV c],[])) (fun b=>m.items.all nl=b.all nl) (by rfl) (fun _ _ _ _ _ b _=>Kl 3 77 (ln Ot m.items)<|Kh 0 b<|Kl 1 44 (dm f)<|Kf 0<|o (i+Int.ofNat m.items.length)<|by(refine⟨by(simp only[oN]at *;omega),by assumption,?_⟩;simp only[mg,Bf,aS,az,bS, *])) fun b _ c _ e f i l n _ o _=>have o:=o.trans<|congrArg some<|eu e;Kl 3 77 (ln Ot m.items)<|Kt 0 n<|Kx 2 o<|Kp 0 (VS e<|by first|exact((f1 _ (aG d j)).2 _ (aG k p)).2 _ (aG c l))<|Kn 0 (nl e) (fun _=>Kf 0<|bT<|rr0 false) fun _=>Kl 1 80 (dm b)<|Kf 0<|i<|by simp only[aS,az,bS, *]at *
noncomputable def Oe(gs:List PGaz)(p:aE):Bool:=Of gs 24&&az (ao 60 (Int.ofNat p.length))
theorem VR(gs:List PGaz)(p:aE)(hf:qq gs):kP 10 [.ls (gs.map bZ),.str p] (.bool (Oe gs p)):=by
  have rr0 b' (h:(Oe gs p)=b':=by simp only[Oe,aS,az,bS, *]):=h;exact bF Tryz.func10<|Kp 1 (VT gs 24 hf oA oA)<|Kb 0 (Of gs 24) (fun a=>Kt 0 a<|Kt 0 a<|Ku 0 a<|Kf 0<|bT<|rr0<|az<|ao 60<|Int.ofNat<|List.length p) fun a=>Mh a<|Mh a<|My a<|Ky 0<|rr0 false
theorem ifB(l:aE)(g:Nat)(p:UInt8→Bool)(hp:∀s,s∈l→kP g [.int .u8 (.ofNat s.toNat)] (.bool (p s)))(hl:l.length<2^40):kP 374 [.ls (l.map n7),.func (.func g) [] []] (iV (dE p l 0)):=by
  have rr0 b' (h:(dE p l 0)=b':=by first|exact mD zd0 hr0 hj0 ‹_› |exact hj0):=h;exact bF Tryz.func374<|Kl 2 7 (ln n7 l)<|Mg 0<|wg n7 l [0,1,7,8] (fun a _=>([aW<|l.map n7,bv (bw g) [] [],nV<|List.length l,nV a],[])) (fun a=>dE p l (0:Nat)=dE p a (List.length l-a.length)) sA (fun _ _ zd0 _ hr0 a hj0=>Kh 0 a<|Kf 0<|li<|rr0 (-1)) fun a _ zd0 _ b c d hr0 e _ f hj0=>Kt 0 e<|Kx 4 f<|Kp 0 (hp b<|by exact aG zd0 hr0)<|Mb (p b) (fun _=>Kf 1<|li<|rr0<|Int.ofNat a) fun _=>Kl 0 18 (dm a)<|Kf 0<|d<|by exact km zd0 hr0 hj0 (by omega)
theorem cfB(l:aE)(g:Nat)(p:UInt8→Bool)(hp:∀s,s∈l→kP g [.int .u8 (.ofNat s.toNat)] (.bool (p s)))(hl:l.length<2^40):kP 353 [.ls (l.map n7),.func (.func g) [] []] (.bool (l.any p)):=by
  have h:=ifB l g p hp hl
  have rr0 b' (h:(List.any l p)=b':=by(rw[lP];simp only[aS,az,bS,oQ])):=h;exact bF Tryz.func353<|Kp 2 h<|Kf 1<|bT<|rr0<|az<|ao (dE p l 0) 0
theorem Px(c:UInt8):kP 352 [.int .u8 (.ofNat c.toNat)] (.bool (az (BO 33 126 c))):=by
  have rr0 b' (h:(az (BO 33 126 c))=b':=by(simp only[BO,aS,az,bS,oQ, *])):=h;exact bF Tryz.func352<|Kb 3 (ao (Int.ofNat c.toNat) 33) (fun a=>Mt a<|MV a<|Ky 0<|rr0 true) fun a=>Kh 0 a<|Kw 0 a<|Kf 0<|bT<|rr0<|ao 126<|Int.ofNat c.toNat
theorem TH(s:aE)(hs:s.length≤2^39):kP 306 [.str s] (.bool (gG s)):=by
  have h:=cfB s 352 _ (fun c _=>Px c) (by omega)
  have rr0 b' (h:(gG s)=b':=by first|(simp only[gG,aS,az,bS, *];done)|(rw[gG,Sg,List.all_eq_not_any_not];simp only[En,aS,az,bS, *]at *)):=h;let q:=List.map n7 s;exact bF Tryz.func306<|Kn 4 (dL s (ByteArray.mk #[]).data.toList) (fun a=>Kt 0 (cA a)<|Kt 0 (cA a)<|Ku 0 (cA a)<|Kn 0 (ao 24<|Int.ofNat<|List.length s) (fun a=>Kt 0 (cA a)<|Mv (Wq (s:=s) (H:=aa []) (oA:(s).length≤2^40))<|Mt (cA a)<|Kt 0 (cA a)<|Mp (bQ.onArgs (.cons (fG q _<|aX W7 s)<|lc .nil) h:kP 353 [kM q false,bv (bw 352) [] []] _)<|Mt (cA a)<|Ku 0 (cA a)<|Kf 0<|bT<|rr0<|az<|List.any s fun a=>az<|BO 33 126 a) fun a=>Mh (cw a)<|Mh (cw a)<|Mh (cw a)<|Mh (cw a)<|My (cw a)<|Ky 0<|rr0 false) fun a=>Mh (cw a)<|Mh (cw a)<|My (cw a)<|Ky 2<|rr0 false
theorem ifS(l:List aE)(g:Nat)(p:aE→Bool)(hp:∀s,s∈l→kP g [.str s] (.bool (p s)))(hl:l.length<2^40):kP 351 [.ls (l.map nr),.func (.func g) [] []] (iV (dE p l 0)):=by
  have rr0 b' (h:(dE p l 0)=b':=by first|exact mD zd0 hr0 hj0 ‹_› |exact hj0):=h;exact bF Tryz.func351<|Kl 2 7 (ln nr l)<|Mg 0<|wg nr l [0,1,7,8] (fun a _=>([aW<|l.map nr,bv (bw g) [] [],nV l.length,nV a],[])) (fun a=>dE p l (0:Nat)=dE p a (l.length-a.length)) sA (fun _ _ zd0 _ hr0 a hj0=>Kh 0 a<|Kf 0<|li<|rr0 (-1)) fun a _ zd0 _ b c d hr0 e _ f hj0=>Kt 0 e<|Kx 4 f<|Kp 0 (hp b<|by exact aG zd0 hr0)<|Mb (p b) (fun _=>Kf 1<|li<|rr0<|Int.ofNat a) fun _=>Kl 0 18 (dm a)<|Kf 0<|d<|by exact km zd0 hr0 hj0 (by omega)
theorem cfS(l:List aE)(g:Nat)(p:aE→Bool)(hp:∀s,s∈l→kP g [.str s] (.bool (p s)))(hl:l.length<2^40):kP 304 [.ls (l.map nr),.func (.func g) [] []] (.bool (l.any p)):=by
  have h:=ifS l g p hp hl
  have rr0 b' (h:(l.any p)=b':=by(rw[lP];simp only[aS,az,bS,oQ])):=h;exact bF Tryz.func304<|Kp 2 h<|Kf 1<|bT<|rr0<|az<|ao (dE p l 0) 0
theorem NK(s:aE)(hs:s.length≤2^39):kP 305 [.str s] (.bool (az (gG s))):=by
  exact bF Tryz.func305<|Kp 1 (TH s hs)<|Kf 1<|bu<|fK<|az<|gG s
theorem Lz(l:List aE)(hl:l.length<2^40)(hs:∀s,s∈l→s.length≤2^39):kP 245 [.ls (l.map nr)] (.bool (kX l)):=by
  have h:=cfS l 305 _ (fun s m=>NK s (hs s m)) hl
  have rr0 b' (h:(kX l)=b':=by first|(simp only[kX,aS,az,bS, *];done)|(rw[kX,List.all_eq_not_any_not];simp only[aS,az,bS, *])):=h;exact bF Tryz.func245<|Kl 2 4 (ln nr l)<|Kn 1 (ao 256<|Int.ofNat l.length) (fun a=>Kt 0 (cA a)<|Mp h<|Mt (cA a)<|Ku 0 (cA a)<|Kf 0<|bT<|rr0<|az<|l.any fun a=>az<|gG a) fun a=>Mh (cw a)<|Mh (cw a)<|My (cw a)<|Ky 0<|rr0 false
theorem Qc(r:Int):kP 308 [.int .i32 r] (.bool (ao r 48||ao 57 r)):=by
  have rr0 b' (h:(ao r 48||ao 57 r)=b':=by(simp only[aS,az,bS, *])):=h;exact bF Tryz.func308<|Kb 3 (ao r 48) (fun a=>Mt a<|MV a<|Ky 0<|rr0 true) fun a=>Kh 0 a<|Kw 0 a<|Kf 0<|bT<|rr0<|ao 57 r
theorem UE(r:Int):kP 247 [.int .i32 r] (.bool (ao r 65||ao 90 r)):=by
  have rr0 b' (h:(ao r 65||ao 90 r)=b':=by(simp only[aS,az,bS, *])):=h;exact bF Tryz.func247<|Kb 3 (ao r 65) (fun a=>Mt a<|MV a<|Ky 0<|rr0 true) fun a=>Kh 0 a<|Kw 0 a<|Kf 0<|bT<|rr0<|ao 90 r
theorem Ih(s:PStep):kP 176 [ax s] (.bool (ak s.kind 0&&dL s.label [])):=by
  have rr0 b' (h:(ak s.kind 0&&dL s.label [])=b':=by(simp only[aS,az,bS, *];first|done|rfl)):=h;exact bF Tryz.func176<|Kb 5 (ak s.kind 0) (fun a=>Kt 0 a<|Kt 0 a<|Ku 0 a<|Kf 0<|bT<|rr0<|dL s.label (ByteArray.mk #[]).data.toList) fun a=>Mh a<|Mh a<|My a<|Ky 0<|rr0 false
theorem vn(n a b:Int):kP 172 [iV n,iV a,iV b] (.bool (az (ao n a)&&az (ao b n))):=by
  have rr0 b' (h:(az (ao n a)&&az (ao b n))=b':=by(simp only[aS,az,bS, *])):=h;exact bF Tryz.func172<|Kn 4 (ao n a) (fun c=>Kt 0 (cA c)<|Kt 0 (cA c)<|Ku 0 (cA c)<|Kf 0<|bT<|rr0<|az<|ao b n) fun c=>Mh (cw c)<|Mh (cw c)<|My (cw c)<|Ky 0<|rr0 false
theorem Ru(s:aE):kP 307 [.str s,.func (.func 308) [] []] (iV (bif Nat.beq (da gZ s) s.length then -1 else Int.ofNat (da gZ s))):=
  Ai jY (Go.Proofs.enters_of Go.Proofs.Tryz.lidxf.f15 (by kernel_rfl) rfl) (Go.Proofs.enters_of Tryz.func308 (by kernel_rfl) rfl)
    (fun s w hp=>Go.Proofs.Any.strings_IndexFunc_grows Go.Proofs.Tryz.lidxf 308 #[] (Go.Proofs.enters_of Tryz.func308 (by kernel_rfl) rfl) _ s w hp) Qc (fun _=>rfl) (IW (lo:=48) (hi:=57) (by omega)) s
theorem RA(s:aE)(h:By (Nat.beq (da gZ s) s.length) true):kP 307 [.str s,.func (.func 308) [] []] (iV (-1)):=by
  have:=Ru s
  simp_all
theorem Vh(s:aE)(h:By (Nat.beq (da gZ s) s.length) false):kP 307 [.str s,.func (.func 308) [] []] (nV (da gZ s)):=by
  have:=Ru s
  grind
theorem abd(s:aE):kP 248 [.str s,.func (.func 247) [] []] (.bool (az (s.all BT))):=
  vV jY (Go.Proofs.enters_of Go.Proofs.Tryz.lconf.f17 (by kernel_rfl) rfl) (Go.Proofs.enters_of Tryz.func247 (by kernel_rfl) rfl)
    (fun s w hp=>Go.Proofs.Any.strings_ContainsFunc_grows Go.Proofs.Tryz.lconf 247 #[] (Go.Proofs.enters_of Tryz.func247 (by kernel_rfl) rfl) _ s w hp) UE (fun _=>rfl) (IW (lo:=65) (hi:=90) (by omega)) s
theorem NH(s:aE)(hs:s.length≤2^39):kP 246 [.str s] (.tuple [.str (s.take (da gZ s)),.str (s.drop (da gZ s))]):=by
  have hl:=uU (p:=gZ) (s:=s)
  have rr0 b' (h:(s.take (da gZ s))=b':=by(rw[qZ h0];simp)):=h;have rr1 b' (h:(s.drop (da gZ s))=b':=by(rw[qZ h0];simp)):=h;let q:=AHeap.mk 1000000 Tr.nil;exact bF Tryz.func246<|Ks 2 ((da gZ s).beq<|List.length s) (fun h0=>Mp (RA s h0)<|Kf 6<|cH<|.cons (Le.str<|rr0 s)<|.cons (Le.str<|rr1 []) .nil) fun h0=>Mp (Vh s h0)<|Kv 5 (Xi (s:=s) (n:=da gZ s) (k:=IntKind.i64) (H:=q) oA)<|Kv 1 (Xh (s:=s) (l:=da gZ s) (k:=IntKind.i64) (H:=q) oA)<|Kf 1<|bu<|cn [aj<|s.take<|da gZ s,aj<|s.drop<|da gZ s]
theorem uD(s:aE)(hs:s.length≤2^39):kP 167 [.str s] (.bool (fS s)):=by
  have hd:(s.drop (da gZ s)).length≤2^39:=by grind
  have rr0 b' (h:(fS s)=b':=by first|(simp only[fS,aS,az,bS,oQ, *];done)|(simp only[fS,aS,az,bS,oQ, *];rfl)|(unfold fS;simp only[h0,h1,h2];rfl)):=h;exact bF Tryz.func167<|Kp 1 (NH s hs)<|Kd 9 (Int.ofNat (s.take<|da gZ s).length) 1 (fun h0 _=>Kt 0 (cA h0)<|Kt 0 (cA h0)<|Ku 0 (cA h0)<|Kd 0 4 (Int.ofNat (s.take<|da gZ s).length) (fun h1 _=>Kt 0 (cA h1)<|M1 (.chr<|gD (s.take<|da gZ s) 0) (mc (gR:0<(s.take (da gZ s)).length))<|Mt (cA h1)<|Ku 0 (cA h1)<|Kc 0 (Int.ofNat (gD (s.take<|da gZ s) 0).toNat) 48 (fun h2 _=>Kt 0 (cA h2)<|Kt 0 (cA h2)<|Ku 0 (cA h2)<|Kd 0 3 (Int.ofNat (s.drop<|da gZ s).length) (fun a _=>Kt 0 (cA a)<|Kt 0 (cA a)<|Mp (abd<|s.drop<|da gZ s)<|Mt (cA a)<|Ku 0 (cA a)<|Kf 0<|bT<|rr0<|az<|az<|(s.drop<|da gZ s).all BT) fun a _=>Mh (cw a)<|Mh (cw a)<|Mh (cw a)<|My (cw a)<|Ky 0<|rr0 false) fun h2 _=>Mh (cw h2)<|Mh (cw h2)<|My (cw h2)<|Ky 2<|rr0 false) fun h1 _=>Mh (cw h1)<|Mh (cw h1)<|My (cw h1)<|Ky 4<|rr0 false) fun h0 _=>Mh (cw h0)<|Mh (cw h0)<|My (cw h0)<|Ky 6<|rr0 false
theorem ve(p:List PStep)(hl:p.length<2^40)(hs:∀s,s∈p→s.label.length≤2^39):kP 81 [.ls (p.map ax)] (.bool (lX p)):=by
  have rr0 b' (h:(lX p)=b':=by first|(rw[lX,hj0,Wh];rfl)|(rw[lX,Fx zd0 hr0 hj0];simp only[nI,uX,‹ak (Int.ofNat zi0) 0=_›,cond_true,cond_false];simp only[En,aS,az,bS, *];first|done|rfl)):=h;exact bF Tryz.func81<|Kl 2 6 (ln ax p)<|Mg 0<|wg ax p [0,5,6,7] (fun a _=>([aW<|p.map ax,aW<|p.map ax,nV p.length,nV a],[])) (fun a=>O2 p=Ig p a) (by(exact O1)) (fun zi0 _ zd0 _ hr0 a hj0=>Kh 0 a<|Kl 1 34 (ln ax p)<|Kf 1<|bT<|rr0<|az<|ao 9<|Int.ofNat p.length) fun zi0 _ zd0 _ a b c hr0 d _ e hj0=>Kt 0 d<|Kx 0 e<|Kj 6 (Int.ofNat zi0) 0 (fun d _=>Kt 0 d<|Mp (Ih a)<|MV d<|Mb (ak a.kind 0&&dL a.label []) (fun _=>Kl 0 32 (dm zi0)<|K1 0 (.frz 0 [0,5,6,7]) ti<|Mf<|c<|by(rw[Fx zd0 hr0 hj0];simp only[nI,uX,‹ak (Int.ofNat zi0) 0=_›,cond_true,cond_false];simp only[En,aS,az,bS, *];first|done|rfl)) fun _=>Kd 3 0 a.kind (fun a _=>Mt (cA a)<|Mt (cA a)<|MV (cA a)<|Ky 3<|rr0 false) fun d _=>Kh 0 (cw d)<|Kh 0 (cw d)<|Kw 0 (cw d)<|Ka 0 7 a.kind (fun a _=>Mt a<|Mt a<|Mt a<|MV a<|Ky 1<|rr0 false) fun d _=>Kh 0 d<|Kh 0 d<|Mp (uD a.label<|by exact hs _ (aG zd0 hr0))<|Mh d<|Kw 0 d<|Mn (fS a.label) (fun _=>Kf 0<|bT<|rr0 false) fun _=>Kl 0 32 (dm zi0)<|K1 0 (.frz 0 [0,5,6,7]) ti<|Mf<|c<|by(rw[Fx zd0 hr0 hj0];simp only[nI,uX,‹ak (Int.ofNat zi0) 0=_›,cond_true,cond_false];simp only[En,aS,az,bS, *];first|done|rfl)) fun d _=>Mh d<|My d<|Kd 4 0 a.kind (fun a _=>Mt (cA a)<|Mt (cA a)<|MV (cA a)<|Ky 3<|rr0 false) fun d _=>Kh 0 (cw d)<|Kh 0 (cw d)<|Kw 0 (cw d)<|Ka 0 7 a.kind (fun a _=>Mt a<|Mt a<|Mt a<|MV a<|Ky 1<|rr0 false) fun d _=>Kh 0 d<|Kh 0 d<|Mp (uD a.label<|by exact hs _ (aG zd0 hr0))<|Mh d<|Kw 0 d<|Mn (fS a.label) (fun _=>Kf 0<|bT<|rr0 false) fun _=>Kl 0 32 (dm zi0)<|K1 0 (.frz 0 [0,5,6,7]) ti<|Mf<|c<|by(rw[Fx zd0 hr0 hj0];simp only[nI,uX,‹ak (Int.ofNat zi0) 0=_›,cond_true,cond_false];simp only[En,aS,az,bS, *];first|done|rfl)
theorem Vg(l:List Int)(v:Int)(hl:l.length<2^40):kP 340 [.ls (l.map bo),iV v] (iV (dE (ak v) l 0)):=by
  have rr0 b' (h:(dE (ak v) l 0)=b':=by first|exact mD zd0 hr0 hj0 ‹_› |exact hj0):=h;exact bF Tryz.func340<|Kl 2 7 (ln bo l)<|Mg 0<|wg bo l [0,1,7,8] (fun a _=>([aW<|l.map bo,iV v,nV l.length,nV a],[])) (fun a=>dE (ak v) l (0:Nat)=dE (ak v) a (l.length-a.length)) sA (fun _ _ zd0 _ hr0 a hj0=>Kh 0 a<|Kf 0<|li<|rr0 (-1)) fun a _ zd0 _ b c d hr0 e _ f hj0=>Kt 0 e<|Kx 4 f<|Kj 1 v b (fun _ _=>Kf 1<|li<|rr0<|Int.ofNat a) fun _ _=>Kl 0 18 (dm a)<|Kf 0<|d<|by exact km zd0 hr0 hj0 (by omega)
theorem sX(l:List Int)(v:Int)(hl:l.length<2^40):kP 294 [.ls (l.map bo),iV v] (.bool (l.any (ak v))):=by
  have h:=Vg l v hl
  have rr0 b' (h:(l.any (ak v))=b':=by(rw[lP];simp only[aS,az,bS,oQ])):=h;exact bF Tryz.func294<|Kp 2 h<|Kf 1<|bT<|rr0<|az<|ao (dE (ak v) l 0) 0
theorem Rt(v:Int):kP 340 [.nils,iV v] (iV (-1)):=by
  let q:=[ab,iV v,iV 0,iV 0];exact bF Tryz.func340<|Mg 3<|MO0 [0,1,7,8] (q,[]) True 0 ti fun _ _=>Kf 2<|bu<|iV (-1)
theorem IQ(v:Int):kP 294 [.nils,iV v] (.bool false):=by
  have h:=Rt v
  exact bF Tryz.func294<|Kp 2 h<|Kf 1<|bu<|fK false
theorem kn0:kP 369 [iV 0] (.str (dW 0)):=by
  exact wk Tryz.func369 (.go 11 .fin)<|bu<|aj [98,111,111,107]
theorem kn1:kP 369 [iV 1] (.str (dW 1)):=by
  exact wk Tryz.func369 (.go 11 .fin)<|bu<|aj [112,97,114,116]
theorem kn2:kP 369 [iV 2] (.str (dW 2)):=by
  exact wk Tryz.func369 (.go 11 .fin)<|bu<|aj [115,101,99,116,105,111,110]
theorem kn3:kP 369 [iV 3] (.str (dW 3)):=by
  exact wk Tryz.func369 (.go 11 .fin)<|bu<|aj [112,97,114,97,103,114,97,112,104]
theorem kn4:kP 369 [iV 4] (.str (dW 4)):=by
  exact wk Tryz.func369 (.go 11 .fin)<|bu<|aj [116,97,98,108,101]
theorem kn5:kP 369 [iV 5] (.str (dW 5)):=by
  exact wk Tryz.func369 (.go 11 .fin)<|bu<|aj [114,111,119]
theorem kn6:kP 369 [iV 6] (.str (dW 6)):=by
  exact wk Tryz.func369 (.go 11 .fin)<|bu<|aj [99,101,108,108]
theorem kn7:kP 369 [iV 7] (.str (dW 7)):=by
  exact wk Tryz.func369 (.go 11 .fin)<|bu<|aj [110,111,116,101]
theorem knX(k:Int)(h:k<0∨7<k):kP 369 [iV k] (.str (dW k)):=by
  rw[Aa h]
  have c:ao k 0=true∨(ao k 0=false∧ao k 8=false):=by
    grind[n4,j6]
  rcases c with c|⟨c,d⟩
  · exact bF Tryz.func369<|Kt 3 c<|Mt c<|MV c<|Kf 1<|bu<|aj []
  · exact bF Tryz.func369<|Kh 3 c<|Kh 0 c<|Kw 0 c<|Mt (cA d)<|Kf 0<|bu<|aj []
theorem xj(k:Int):kP 369 [iV k] (.str (dW k)):=by
  by_cases h:k<0∨7<k
  · grind[knX]
  · grind[kn0,kn1,kn2,kn3,kn4,kn5,kn6,kn7]
theorem ccX(p k:Int)(h:p<0∨7<p):kP 223 [iV p,iV k] (.bool (iJ p k)):=by
  unfold iJ
  rw[y7 h]
  have c:ao p 0=true∨(ao p 0=false∧ao p 8=false):=by
    grind[n4,j6]
  rcases c with c|⟨c,d⟩
  · exact bF Tryz.func223<|Kh 3 (cw c)<|Mh (cw c)<|My (cw c)<|Kf 2<|bu<|fK false
  · exact bF Tryz.func223<|Kt 3 (cA c)<|Kt 0 (cA c)<|Ku 0 (cA c)<|Kh 0 d<|Mh d<|Mh d<|Mh d<|Mh d<|My d<|Kf 0<|bu<|fK false
theorem cc0(k:Int):kP 223 [iV 0,iV k] (.bool (iJ 0 k)):=by
  have h:=sX [1,2] k (by grind)
  let q:=[iV 1,iV 2];exact bF Tryz.func223<|Kp 11 (bQ.onArgs (.cons (fG q _<|by rfl)<|lc .nil) h:kP 294 [kM q false,iV k] _)<|Kf 1<|bu<|fK<|[1,2].any<|ak k
theorem cc1(k:Int):kP 223 [iV 1,iV k] (.bool (iJ 1 k)):=by
  have h:=sX [2] k (by grind)
  let q:=[iV 2];exact bF Tryz.func223<|Kp 11 (bQ.onArgs (.cons (fG q _<|by rfl)<|lc .nil) h:kP 294 [kM q false,iV k] _)<|Kf 1<|bu<|fK<|[2].any<|ak k
theorem cc2(k:Int):kP 223 [iV 2,iV k] (.bool (iJ 2 k)):=by
  have h:=sX [3,4,7] k (by grind)
  let q:=[iV 3,iV 4,iV 7];exact bF Tryz.func223<|Kp 11 (bQ.onArgs (.cons (fG q _<|by rfl)<|lc .nil) h:kP 294 [kM q false,iV k] _)<|Kf 1<|bu<|fK<|[3,4,7].any<|ak k
theorem cc3(k:Int):kP 223 [iV 3,iV k] (.bool (iJ 3 k)):=by
  have h:=sX [3,4,7] k (by grind)
  let q:=[iV 3,iV 4,iV 7];exact bF Tryz.func223<|Kp 11 (bQ.onArgs (.cons (fG q _<|by rfl)<|lc .nil) h:kP 294 [kM q false,iV k] _)<|Kf 1<|bu<|fK<|[3,4,7].any<|ak k
theorem cc4(k:Int):kP 223 [iV 4,iV k] (.bool (iJ 4 k)):=by
  have h:=sX [5] k (by grind)
  let q:=[iV 5];exact bF Tryz.func223<|Kp 11 (bQ.onArgs (.cons (fG q _<|by rfl)<|lc .nil) h:kP 294 [kM q false,iV k] _)<|Kf 1<|bu<|fK<|[5].any<|ak k
theorem cc5(k:Int):kP 223 [iV 5,iV k] (.bool (iJ 5 k)):=by
  have h:=sX [6] k (by grind)
  let q:=[iV 6];exact bF Tryz.func223<|Kp 11 (bQ.onArgs (.cons (fG q _<|by rfl)<|lc .nil) h:kP 294 [kM q false,iV k] _)<|Kf 1<|bu<|fK<|[6].any<|ak k
theorem cc6(k:Int):kP 223 [iV 6,iV k] (.bool (iJ 6 k)):=by
  have h:=IQ k
  exact bF Tryz.func223<|Kp 11 h<|Kf 1<|bu<|fK false
theorem cc7(k:Int):kP 223 [iV 7,iV k] (.bool (iJ 7 k)):=by
  have h:=IQ k
  exact bF Tryz.func223<|Kp 11 h<|Kf 1<|bu<|fK false
theorem zM(p k:Int):kP 223 [iV p,iV k] (.bool (iJ p k)):=by
  by_cases h:p<0∨7<p
  · grind[ccX]
  · grind[cc0,cc1,cc2,cc3,cc4,cc5,cc6,cc7]
theorem au{n b m:Nat}(h1:n≤m)(h2:m≤2^40)(h3:m*b≤2^40):small n b=true:=by
  unfold small
  have h4:n*b≤m*b:=eH b h1
  grind[Nat.ble_eq_true_of_le]
noncomputable abbrev wM(u:TUnit):AObj:=.row 8 false 0 [eU u]
def IE(p:PId)(u:TUnit)(x0:Nat×List TUnit×Unit):Prop:=(u.kids).drop x0.1=x0.2.1∧ca p u.kids=ca p x0.2.1
noncomputable def yN(p:PId)(u:TUnit)(x0:Nat×List TUnit×Unit):List AV×List AObj:=([AV.ptr 0 0 0 0,AV.ptr 1 0 0 0,AV.ls (u.kids.map aY),nV u.kids.length,nV x0.1],[AObj.row 8 false 0 [AV.agg [iV u.act,iV u.item,iV u.n,iV u.kind,AV.str u.label,AV.ls (u.head.map aQ),AV.ls (u.words.map aQ),AV.ls (u.kids.map aY)]],AObj.row 3 false 0 [AV.agg [iV p.a,iV p.i,iV p.n]]])
theorem FM(p:PId):∀(u:TUnit),nU u≤2^20→(b7 p u=false→kP 86 [eU u,aJ p] .nils)∧(b7 p u=true→kP 86 [eU u,aJ p] (.ps ((aF p u).map aY) false)):=by
  refine TUnit.ind fun u ih hn=>?_
  have ihn:∀k,k∈u.kids→By (b7 p k) false→kP 86 [eU k,aJ p] .nils:=fun k hk h=>(ih k hk (bL (mj (gI hk)) hn)).1 h
  have ihy:∀k,k∈u.kids→By (b7 p k) true→kP 86 [eU k,aJ p] (.ps ((aF p k).map aY) false):=fun k hk h=>(ih k hk (bL (mj (gI hk)) hn)).2 h
  have hkl:=bz u
  refine⟨fun hs=>?_,fun hs=>?_⟩
  · let q:=[aw [iV u.act,iV u.item,iV u.n,iV u.kind,aj u.label,aW (u.head.map aQ),aW (u.words.map aQ),aW (u.kids.map aY)]];let q3:=[iV p.a,iV p.i,iV p.n];exact bF Tryz.func86<|Kv 5 (l9 ((Tryz.prog).underlying 27) u.act u.item u.n p.a p.i p.n<|aa [aZ 8 false 0 q,aZ 3 false 0 [aw q3]])<|Mb (ak u.act p.a&&(ak u.item p.i&&ak u.n p.n)) (fun _=>Kf 2<|dN (by exact absurd (hs.symm.trans (EF ‹_›)) (by grind):(AV.nils)=(AV.ps q true))) fun _=>Kl 2 16 (ln aY u.kids)<|Mg 0<|XV (0:Nat) u.kids () [2,3,15,16,17] (fun a _ _=>([bK 0 0 0 0,bK 1 0 0 0,aW<|u.kids.map aY,nV u.kids.length,nV a],[aZ 8 false 0 [aw [iV u.act,iV u.item,iV u.n,iV u.kind,aj u.label,aW<|u.head.map aQ,aW<|u.words.map aQ,aW<|u.kids.map aY]],aZ 3 false 0 [aw [iV p.a,iV p.i,iV p.n]]])) (fun a b _=>(u.kids).drop a=b∧ca p u.kids=ca p b) (fun _ a _=>a.length) (et rfl<|by rfl) fun a b c d e=>Mc b (fun a=>have b:=fg d.1 a;have:=iX (J:=fun a _=>ca p u.kids=ca p a) (a:=c) a d.2;Kh 0 b<|Kf 0<|bu ab) fun b f g=>let i:=List.map aY<|[u]++aF p b;have j:=fR d.1 g;have:=ae j;have l:=(fe (enc:=aY) d.1 g).trans<|congrArg some<|aD b;have c:=cX (J:=fun a _=>ca p u.kids=ca p a) (a:=c) g d.2;have:nU b<nU u:=gI<|aG d.1 g;have:(aF p b).length≤nU b:=mh b;Kt 0 j<|Mx l<|Ks 4 (b7 p b) (fun a=>Mp (ihy b (by exact aG d.1 g) a)<|Mg 6<|M2 .apl (et (by simp_all[ko]:List.map aY (aF p b)≠[])<|fT (sz:=8) (f:=aY) (fun _=>by(rw[aD];rfl))<|aF p b) (et (by(refine au (m:=2^21) ?_ ?_ ?_<;>(try simp only[lM,lC,lN])<;>(have:=mh (p:=p) b;omega)):small (([AV.agg [iV u.act,iV u.item,iV u.n,iV u.kind,AV.str u.label,AV.ls (u.head.map aQ),AV.ls (u.words.map aQ),AV.ls (u.kids.map aY)]]).length+((aF p b).map aY).length) 120=true) rt)<|M1 (.obj 3<|aZ 8 true 0 i) (congrArg (aZ 8 true 0) (by(simp only[m0,dl,wm,aD,eu]<;>rfl):[AV.agg [iV u.act,iV u.item,iV u.n,iV u.kind,AV.str u.label,AV.ls (u.head.map aQ),AV.ls (u.words.map aQ),AV.ls (u.kids.map aY)]]++List.map aY (aF p b)=List.map aY ([u]++aF p b)))<|Mg 0<|M2 (.fsl 0 [] 4 i) ti (ct (aK 0) (tA aY ([u]++aF p b) (q++List.map aY (aF p b)).length (sA:([u]++aF p b).length=([AV.agg [iV u.act,iV u.item,iV u.n,iV u.kind,AV.str u.label,AV.ls (u.head.map aQ),AV.ls (u.words.map aQ),AV.ls (u.kids.map aY)]]++List.map aY (aF p b)).length))<|aX ic<|[u]++aF p b)<|Ml 4 (fG i false<|aX ic<|[u]++aF p b)<|Mf<|dN (by exact absurd (hs.symm.trans (Vr (by assumption) c (by omega))) (by grind):(AV.nils)=(AV.ls i))) fun c=>Mp (ihn b (by exact aG d.1 g) c)<|Kl 4 30 (dm a)<|K1 0 (.frz 2 [2,3,15,16,17]) (ct rt rt ti)<|Mf<|e (a+1) f () (et (bh d.1 g)<|by grind[ii])<|eA g
  · have rr0:∀b',(h:((aF p u).map aY)=b':=by first|rfl|exact absurd (hs.symm.trans (Hz (by assumption) hj0)) (by decide)|(rw[tL (by assumption),dl,aD];rfl)|(rw[KM (by assumption) hj0 (by assumption)];rfl))→((aF p u).map aY)=b':=(fun _ h=>h);let q:=[aw [iV u.act,iV u.item,iV u.n,iV u.kind,aj u.label,aW (u.head.map aQ),aW (u.words.map aQ),aW (u.kids.map aY)]];let q3:=[iV p.a,iV p.i,iV p.n];exact bF (hv:=(aX ic (aF p u))) Tryz.func86 (Kv 5 (sq (d:=(Tryz.prog).underlying 27) (n:=3) (l:=(0,1)::(1,1)::(2,1)::[]) (xs:=[iV u.act,iV u.item,iV u.n]) (ys:=q3) (H:=aa [aZ 8 false 0 q,aZ 3 false 0 [aw q3]]) rfl (lQ (e:=ak u.act p.a) rfl rfl rfl (lQ (e:=ak u.item p.i) rfl rfl rfl (uR (e:=ak u.n p.n) rfl rfl rfl rfl)))) (Mb (ak u.act p.a&&(ak u.item p.i&&ak u.n p.n)) (fun h0=>Kf 2 ((Ts (rr0 q)):Le _ (kM q true))) (fun h0=>Kl 2 16 (Le.len (f:=aY) (l:=u.kids)) (Mg 0 (ML (Nat×List TUnit×Unit) [2,3,15,16,17] (yN p u) (IE p u) (fun x=>x.2.1.length) (0,u.kids,()) (aK ((yN p u) (0,u.kids,()))) (et (rfl:List.drop 0 (u.kids)=u.kids) (by rfl:(ca p u.kids=ca p u.kids))) (fun x0 hx0 nx0=>Mc x0.2.1 (fun hr0=>have lt0:=fg hx0.1 hr0;have hj0:=iX (J:=fun r x=>ca p u.kids=ca p r) (a:=x0.2.2) hr0 hx0.2;(Kh 0 lt0 (Kf 0 (dN (by exact absurd (hs.symm.trans (Hz (by assumption) hj0)) (by grind):(AV.ps ((aF p u).map aY) false)=(AV.nils)))))) (fun w0 r0 hr0=>let q2:=List.map aY ([u]++aF p w0);have lt0:=fR hx0.1 hr0;have glt0:=ae lt0;have nt0:=(fe (enc:=aY) hx0.1 hr0).trans (congrArg some (aD w0));have hj0:=cX (J:=fun r x=>ca p u.kids=ca p r) (a:=x0.2.2) hr0 hx0.2;have q0:nU w0<nU u:=gI (aG hx0.1 hr0);have q1:(aF p w0).length≤nU w0:=mh w0;(Kt 0 lt0 (Mx nt0 (Ks 4 (b7 p w0) (fun h2=>Mp (ihy w0 (by exact aG hx0.1 hr0) h2) (Mg 6 (M2 .apl (et (by simp_all[ko]:List.map aY (aF p w0)≠[]) (fT (sz:=8) (f:=aY) (fun _=>by(rw[aD];rfl)) (aF p w0))) (et (by(refine au (m:=2^21) ?_ ?_ ?_<;>(try simp only[lM,lC,lN])<;>(have:=mh (p:=p) w0;omega)):small (([AV.agg [iV u.act,iV u.item,iV u.n,iV u.kind,AV.str u.label,AV.ls (u.head.map aQ),AV.ls (u.words.map aQ),AV.ls (u.kids.map aY)]]).length+((aF p w0).map aY).length) 120=true) rt) (M1 (.obj 3 (aZ 8 true 0 q2)) (congrArg (aZ 8 true 0) (by(simp only[m0,dl,wm,aD,eu]<;>rfl):[AV.agg [iV u.act,iV u.item,iV u.n,iV u.kind,AV.str u.label,AV.ls (u.head.map aQ),AV.ls (u.words.map aQ),AV.ls (u.kids.map aY)]]++List.map aY (aF p w0)=List.map aY ([u]++aF p w0))) (Mg 0 (M2 (.fsl 0 [] 4 q2) ti (ct (aK (0)) (yU (f:=aY) (l:=[u]++aF p w0) (n:=(q++List.map aY (aF p w0)).length) (by simp_all:([u]++aF p w0).length=([AV.agg [iV u.act,iV u.item,iV u.n,iV u.kind,AV.str u.label,AV.ls (u.head.map aQ),AV.ls (u.words.map aQ),AV.ls (u.kids.map aY)]]++List.map aY (aF p w0)).length)) (aX ic ([u]++aF p w0))) (Mf ((Ts (rr0 q2)):Le _ (kM q2 false))))))))) (fun h2=>Mp (ihn w0 (by exact aG hx0.1 hr0) h2) (Kl 4 30 (Le.wr (x:=Int.ofNat x0.1+1) eB) (K1 0 (.frz 2 [2,3,15,16,17]) (ct rt rt ti) (Mf (nx0 (x0.1+1,r0,()) (et (bh hx0.1 hr0) (by grind[ii]:(ca p u.kids=ca p r0))) (eA hr0))))))))))))))))
theorem KN(p:PId)(u:TUnit)(h:By (b7 p u) false)(hn:nU u≤2^20):kP 86 [eU u,aJ p] .nils:=(FM p u hn).1 h
theorem FL(p:PId)(u:TUnit)(h:By (b7 p u) true)(hn:nU u≤2^20):kP 86 [eU u,aJ p] (.ps ((aF p u).map aY) false):=(FM p u hn).2 h
theorem SR:kP 183 [.nils] .nils:=by
  exact wk Tryz.func183 (.go 4 .fin)<|bu ab
theorem SP:kP 183 [.ps [] false] (.ps [] true):=by
  exact wk Tryz.func183 (.go 7 .fin)<|bu<|kM [] true
theorem SS(w:PWord)(r:List PWord)(hl:r.length<2^30):kP 183 [.ls ((w::r).map aQ)] (.ls ((w::r).map aQ)):=by
  let q:=List.map aQ (w::r);exact bF Tryz.func183<|Mg 1<|Mz 3 (fun(a:((w::r).map aQ:List AV)=[])=>Mw .abs<|jd _ _ a)<|Mg 3<|M2 .apl (et (sA:List.map aQ (w::r)≠[])<|fM 4 aQ (w::r) fun _=>rfl) (by(refine au (m:=2^31) ?_ ?_ ?_<;>first|omega|grind):small ((w::r).map aQ).length 40=true)<|Mg 0<|M2 (.fsl 0 [] 2 q) ti (ct (aK 0) (tA aQ (w::r) q.length (sA:(w::r).length=((w::r).map aQ).length))<|aX iS<|w::r)<|Ml 2 (fG q false<|aX iS<|w::r)<|Mf<|bu<|aW q
theorem NN(p:PId)(u:TUnit)(h:By (b7 p u) false)(hn:nU u≤2^20):kP 242 [eU u,.pptr [aJ p] 0 0] (.bool false):=by
  have h':b7 p u=false:=h
  exact bF Tryz.func242<|Kp 3 (KN p u h hn)<|Kf 1<|bu<|fK false
theorem NM(p:PId)(u:TUnit)(h:By (b7 p u) true)(hn:nU u≤2^20):kP 242 [eU u,.pptr [aJ p] 0 0] (.bool true):=by
  have h':b7 p u=true:=h
  exact bF Tryz.func242<|Kp 3 (FL p u h hn)<|Kf 1<|bu<|fK true
theorem abH(l:List TUnit)(g:Nat)(q:TUnit→Bool)(hp:∀k,k∈l→kP g [eU k] (.bool (q k)))(hl:l.length<2^40):kP 241 [.ls (l.map aY),.func (.func g) [] []] (iV (dE q l 0)):=by
  have rr0 b' (h:(dE q l 0)=b':=by first|exact mD zd0 hr0 hj0 ‹_› |exact hj0):=h;exact bF Tryz.func241<|Kl 2 7 (ln aY l)<|Mg 0<|wg aY l [0,1,7,8] (fun a _=>([aW<|l.map aY,bv (bw g) [] [],nV l.length,nV a],[])) (fun a=>dE q l (0:Nat)=dE q a (l.length-a.length)) sA (fun _ _ zd0 _ hr0 a hj0=>Kh 0 a<|Kf 0<|li<|rr0 (-1)) fun a _ zd0 _ b c d hr0 e _ f hj0=>have f:=f.trans<|congrArg some<|aD b;Kt 0 e<|Kx 4 f<|Kp 0 (hp b<|by exact aG zd0 hr0)<|Mb (q b) (fun _=>Kf 1<|li<|rr0<|Int.ofNat a) fun _=>Kl 0 18 (dm a)<|Kf 0<|d<|by exact km zd0 hr0 hj0 (by omega)
theorem aa9(l:List TUnit)(g:Nat)(p:PId)(q:TUnit→Bool)(hp:∀k,k∈l→kP g [eU k,.pptr [aJ p] 0 0] (.bool (q k)))(hl:l.length<2^40):kP 241 [.ls (l.map aY),.func (.func g) [] [.pptr [aJ p] 0 0]] (iV (dE q l 0)):=by
  have rr0 b' (h:(dE q l 0)=b':=by first|exact mD zd0 hr0 hj0 ‹_› |exact hj0):=h;exact bF Tryz.func241<|Kl 2 7 (ln aY l)<|Mg 0<|wg aY l [0,1,7,8] (fun a _=>([aW<|l.map aY,bv (bw g) [] [AV.pptr [aw [iV p.a,iV p.i,iV p.n]] 0 0],nV l.length,nV a],[])) (fun a=>dE q l (0:Nat)=dE q a (l.length-a.length)) sA (fun _ _ zd0 _ hr0 a hj0=>Kh 0 a<|Kf 0<|li<|rr0 (-1)) fun a _ zd0 _ b c d hr0 e _ f hj0=>have f:=f.trans<|congrArg some<|aD b;Kt 0 e<|Kx 4 f<|Kp 0 (hp b<|by exact aG zd0 hr0)<|Mb (q b) (fun _=>Kf 1<|li<|rr0<|Int.ofNat a) fun _=>Kl 0 18 (dm a)<|Kf 0<|d<|by exact km zd0 hr0 hj0 (by omega)
theorem Sr{D a:Nat}{w:TUnit}{r:List TUnit}{u:TUnit}(h:D=Nat.max a (lZ (w::r))∧a≤2^20)(q0:nU w<nU u)(q1:nC w<nU w)(hn:nU u≤2^20):D=Nat.max (Nat.max a (1+nC w)) (lZ r)∧Nat.max a (1+nC w)≤2^20:=by
  grind[lZ]
theorem V9{D a:Nat}(h:D=Nat.max a (lZ [])∧a≤2^20):D=a:=by
  simp_all[Da]
theorem H2:∀(u:TUnit),nU u≤2^20→kP 227 [eU u] (nV (nC u)):=by
  refine TUnit.ind fun u ih hn=>?_
  have hkl:=bz u
  have ihk:∀k,k∈u.kids→kP 227 [eU k] (nV (nC k)):=fun k hk=>ih k hk (bL (mj (gI hk)) hn)
  have rr0 b' (h:(Int.ofNat (nC u))=b':=by(rw[Mu,V9 hj0])):=h;exact bF Tryz.func227<|Kl 5 8 (ln aY u.kids)<|Mg 0<|M9 aY u.kids (0:Nat) [3,7,8,9] (fun a _ b=>([nV b,aW<|u.kids.map aY,nV u.kids.length,nV a],[aZ 8 false 0 [aw [iV u.act,iV u.item,iV u.n,iV u.kind,aj u.label,aW<|u.head.map aQ,aW<|u.words.map aQ,aW<|u.kids.map aY]]])) (fun a b=>lZ u.kids=b.max (lZ a)∧b≤2^20) sA (fun _ _ a _ _ _ b hj0=>Kh 0 b<|Kf 1<|li<|rr0<|Int.ofNat a) fun a _ b c d e f g i j _ l _=>have l:=(l).trans<|congrArg some<|aD e;have hj0:=cX (J:=fun a b=>lZ u.kids=b.max (lZ a)∧b≤2^20) (a:=b) i d;have d:=gI<|aG c i;have m:=E1 e;Kt 0 j<|Mx l<|Kp 4 (ihk e<|by exact aG c i)<|Kl 0 16 (bA (x:=(1:Int)+Int.ofNat (nC e)) (n:=(1:Nat)+nC e) eB)<|Kl 0 17 (pR (k:=IntKind.i64)<|XS b<|1+nC e)<|Kl 1 18 (ji a)<|K1 0 (.frz 1 [3,7,8,9]) (et rt ti)<|Mf<|g (b.max<|1+nC e)<|by exact Sr hj0 d m hn
theorem MK(g:Nat)(q:TUnit→Bool):∀(u:TUnit),(∀x,x∈bW u→kP g [eU x] (.bool (q x)))→u.kids.length<2^40→(∀x,x∈bW u→x.kids.length<2^40)→kP 228 [eU u,.func (.func g) [] []] (.bool (vc q u)):=by
  refine TUnit.ind fun u ih hp hl hk=>?_
  have ihk:∀k,k∈u.kids→kP 228 [eU k,.func (.func g) [] []] (.bool (vc q k)):=fun k hm=>ih k hm (fun x hx=>hp x (bX hm hx)) (hk k (Er hm)) (fun x hx=>hk x (bX hm hx))
  have hs:=hp u (bq u)
  have rr0 b' (h:(vc q u)=b':=by first|(rw[yA];simp only[aS,az,bS, *];done)|(rw[yA,hj0,O0])|(rw[yA,hj0,Bd];simp only[aS,az,bS, *];done)):=h;exact bF Tryz.func228<|Kp 3 hs<|Kn 0 (q u) (fun _=>Ky 0<|rr0 false) fun _=>Kl 2 13 (ln aY u.kids)<|K1 0 (.frz 0 [1,12,13,14]) ti<|wg aY u.kids [1,12,13,14] (fun a _=>([bv (bw g) [] [],aW<|u.kids.map aY,nV u.kids.length,nV a],[])) (fun a=>(q u&&(dQ u.kids).all q)=(dQ a).all q) (by(simp only[aS,az,bS, *];done)) (fun _ _ _ _ _ a hj0=>Kh 0 a<|Ky 0<|rr0 true) fun a _ b _ c d e f i _ j hj0=>have j:=j.trans<|congrArg some<|aD c;Kt 0 i<|Mx j<|Kp 4 (ihk c<|by exact aG b f)<|Kn 0 (vc q c) (fun _=>Kf 0<|bT<|rr0 false) fun _=>Kl 0 22 (dm a)<|K1 0 (.frz 0 [1,12,13,14]) ti<|Mf<|e<|by simp_all[Bd]
theorem OB(u:TUnit)(n:Nat)(hn:n<2^40):kD 229 [eU u,.ptr 0 0 0 0] (aa [.row 1 false 0 [nV n]]) (.bool true) (aa [.row 1 false 0 [nV (n+1)]]):=by
  exact gg Tryz.func229 fun a=>Kl 3 5 (ji n)<|K1 1 (.frz 1 [3]) (et rt ti)<|Mf a
theorem HC:∀(u:TUnit),∀(n:Nat),n+nU u<2^40→kD 228 [eU u,.func (.func 229) [] [.ptr 0 0 0 0]] (aa [.row 1 false 0 [nV n]]) (.bool true) (aa [.row 1 false 0 [nV (n+nU u)]]):=by
  refine TUnit.ind fun u ih n hn=>?_
  have hq:=jv u
  have hl:=bz u
  exact TC Tryz.func228<|K1 3 (.frz 1 [1,2,7,8]) (et rt ti)<|Me (OB u n oA)<|Kl 4 13 (ln aY u.kids)<|Mg 0<|M9 aY u.kids (n+1) [1,12,13,14] (fun a _ b=>([bv (bw 229) [] [bK 0 0 0 0],aW<|u.kids.map aY,nV u.kids.length,nV a],[aZ 1 false 0 [nV b]])) (fun a b=>n+nU u=b+ef a∧b+ef a<2^40) oA (fun _ _ a _ _ _ b _=>Kh 0 b<|Kf 0<|et (aK<|fK true) (by simp_all[mr]:(aa [AObj.row 1 false 0 [nV a]])=(aa [AObj.row 1 false 0 [nV (n+nU u)]]))) fun a _ b c _ d e f g h _ i _=>have i:=i.trans<|congrArg some<|aD d;have c:=aG c g;have g:b+nU d<2^40:=(by grind[bi]);Kt 0 h<|Mx i<|K1 4 (.frz 1 [1,12,13,14,18,19]) (et rt ti)<|Me (ih d c b g)<|Kl 2 22 (ji a)<|Kf 0<|f (b+nU d)<|by grind[bi]
theorem E3(u:TUnit)(hn:nU u<2^39):kP 133 [eU u] (nV (nU u)):=by
  have rr0 b' (h:(Int.ofNat (nU u))=b':=by(rw[gr])):=h;exact bF Tryz.func133<|Mg 5<|M0 (.ren [1,0] [] [3,4,5])<|M1 (.frz 1 [3,4,5]) (et rt ti)<|Me (HC u 0 oA)<|Kf 1<|li<|rr0<|Int.ofNat<|0+nU u
noncomputable abbrev sb(ep n:Nat):AObj:=.row 1 false 0 [.slice 1 ep 0 n none]
noncomputable abbrev NG(ep:Nat)(l:List PId):AObj:=.row 3 true ep (l.map aJ)
theorem Yk(u:TUnit):kD 230 [eU u,.ptr 0 0 0 0] (aa [.row 1 false 0 [.nils]]) (.bool true) (aa [sb 0 1,NG 0 [ah u]]):=by
  exact wcq Tryz.func230 (.go 8<|.ren [0,2,1] [] [3]<|.frz 2 [3] .fin) fun a=>et (ct rt rt ti) a
theorem Yw(u:TUnit)(ep n:Nat)(l:List PId)(hn:n=l.length)(hl:l.length<2^30):kD 230 [eU u,.ptr 0 0 0 0] (aa [sb ep n,NG ep l]) (.bool true) (aa [sb (ep+1) (n+1),NG (ep+1) (l++[ah u])]):=by
  exact gg Tryz.func230 fun a=>K1 5 .app (ct (aK ep) (sA:n=(l.map aJ).length) (by(refine au (m:=2^31) ?_ ?_ ?_<;>omega):small (n+1) 24=true))<|M1 (.obj 1<|aZ 3 true (ep+1)<|(l++[PId.mk u.act u.item u.n]).map aJ) (congrArg (aZ 3 true<|ep+1)<|cp (f:=aJ) (l:=l) (ws:=[PId.mk u.act u.item u.n]))<|K1 1 (.frz 2 [3]) (ct (tR 3 true (ep+1) 2<|aX AP<|l++[PId.mk u.act u.item u.n]) rt ti)<|Mf a
theorem Oh:∀(u:TUnit),∀(ep n:Nat)(l:List PId),n=l.length→l.length+nU u<2^30→kC 228 [eU u,.func (.func 230) [] [.ptr 0 0 0 0]] (aa [sb ep n,NG ep l])
    (fun v h=>∃y:Nat×Nat×List PId,(y.2.1=y.2.2.length∧y.2.2=l++cR u)∧v=.bool true∧h=aa [sb y.1 y.2.1,NG y.1 y.2.2]):=by
  refine TUnit.ind fun u ih ep n l hn hl=>?_
  have hq:=jv u
  have hkl:=bz u
  exact qB Tryz.func228 fun a=>K1 3 (.frz 2 [1,2,7,8]) (ct (tR 3 true ep 2<|aX AP l) rt ti)<|Me (Yw u ep n l hn oA)<|Kl 4 13 (ln aY u.kids)<|Mg 0<|PV aY u.kids (ep+1) (n+1) (l++[ah u]) [1,12,13,14] (fun a _ b c d=>([bv (bw 230) [] [bK 0 0 0 0],aW<|u.kids.map aY,nV u.kids.length,nV a],[aZ 1 false 0 [aN 1 b 0 c none],aZ 3 true b<|d.map aJ])) (fun a _ b c=>b=c.length∧c++bx a=l++[ah u]++bx u.kids∧c.length+ef a<2^30) gR (fun _ _ b c d _ _ _ e _=>Kh 0 e<|Kf 0<|a (b,c,d)<|by grind[lk,gQ]) fun a _ b c d e f g i j k m _ o _=>have o:=(o).trans<|congrArg some<|aD g;have:=cX (J:=fun a b=>b.2.1=b.2.2.length∧b.2.2++bx a=l++[ah u]++bx u.kids∧b.2.2.length+ef a<2^30) (a:=(b,c,d)) k f;have e:=aG e k;have f:d.length+nU g<2^30:=(by grind[bi]);Kt 0 m<|Mx o<|K1 4 (.frz 2 [1,12,13,14,18,19]) (ct (tR 3 true b 2<|aX AP d) rt ti)<|Mq (ih g e b c d oA f) fun b _=>Kl 2 22 (dm a)<|Kf 0<|j b.1 b.2.1 b.2.2<|by grind[bi,dC,uM]
theorem WD(l:List PWord)(hl:l.length≤300)(hs:∀w,w∈l→w.text.length≤2^39):kP 373 [.ls (l.map aQ)] (.bool (dz l)):=by
  have hv:=Lz (l.map PWord.text) (by grind) (fun s hm=>by grind)
  have rr0 b' (h:(dz l)=b':=by(simp only[dz,aS,az,bS, *])):=h;exact bF Tryz.func373<|Kl 3 7 (ln aQ l)<|Mg 0<|kZ Nat Nat (List aE) aQ l [0,3,6,7,8] (fun a _=>([aW<|l.map aQ,ab,aW<|l.map aQ,nV l.length,nV a],[])) (fun a _ b c d=>([aW<|l.map aQ,aN 0 b 0 c none,aW<|l.map aQ,nV l.length,nV a],[aZ 1 true b<|d.map nr])) (fun a=>a=l) (fun a _ b c=>b=c.length∧(0:Nat)<c.length∧c++List.map PWord.text a=List.map PWord.text l∧c.length+a.length=l.length) (by rfl) (fun _ _ _ _ _ a _=>Kh 0 a<|Kl 1 19 (ln aQ l)<|Kd 1 256 (Int.ofNat l.length) (fun a _=>Kt 0 (cA a)<|Mp (bQ.onArgs (.cons (Le.lsn (sA:((l.map PWord.text).map nr)=[])) .nil) hv:kP 245 [ab] _)<|MV (cA a)<|Kf 0<|bT<|rr0<|kX<|l.map PWord.text) fun a _=>Mh (cw a)<|My (cw a)<|Kf 0<|bT<|rr0 false) (fun a _ _ _ b c _ d _ e _ f g=>Kt 0 e<|Mx f<|Kl 9 17 (ji a)<|Mg 0<|M0 (.ren [1,0] [] [0,3,6,7,8])<|M1 (.frz 1 [0,3,6,7,8]) (et rt ti)<|Mf<|d 0 1 [b.text]<|by(refine⟨rfl,by simp,?_,?_⟩<;>(rw[←g])<;>(first|rfl|grind))) (fun _ _ a b c _ _ _ d _=>Kh 0 d<|Kl 1 19 (ln aQ l)<|Kd 1 256 (Int.ofNat l.length) (fun d _=>Mg 0<|M2 (.fsl 0 [21] 22<|c.map nr) ti (ct (aK a) (tA nr c b (oA:(c).length=b))<|aX J3 c)<|Ml 22 (fG (c.map nr) false<|aX J3 c)<|Mt (cA d)<|Mp (bQ.onArgs (.cons (cJ (sA:((l.map PWord.text).map nr)=(c.map nr))) .nil) hv:kP 245 [aW (c.map nr)] _)<|MV (cA d)<|Kf 0<|bT<|rr0<|kX<|l.map PWord.text) fun a _=>Mh (cw a)<|My (cw a)<|Kf 0<|bT<|rr0 false) fun a _ b c d _ _ e f _ g _ i _ j k=>Kt 0 i<|Mx j<|K1 6 .app (ct (aK b) (sA:c=(d.map nr).length) (by(refine au (m:=2^20) ?_ ?_ ?_<;>omega):small (c+1) 16=true))<|M1 (.obj 0<|aZ 1 true (b+1)<|(d++[e.text]).map nr) (congrArg (aZ 1 true<|b+1)<|cp (f:=nr) (l:=d) (ws:=[e.text]))<|Kl 1 17 (ji a)<|K1 0 (.frz 1 [0,3,6,7,8]) (et (tR 1 true (b+1) 1<|aX J3<|d++[e.text]) ti)<|Mf<|g (b+1) (c+1) (d++[e.text])<|by(refine⟨by simp_all,by simp,?_,?_⟩<;>first|(rw[←k.2.2.1];simp;done)|grind)
theorem pe(a b:Nat):Int.ofNat (a+b)=Int.ofNat a+Int.ofNat b:=rfl
theorem Ty(u:TUnit)(h1:u.head.length≤300)(h2:u.words.length≤300)(h3:u.kids.length<2^30)(h4:u.label.length≤2^39)(h5:∀w,w∈u.head→w.text.length≤2^39)(h6:∀w,w∈u.words→w.text.length≤2^39):kP 348 [eU u] (.bool (jH u)):=by
  have hlk:∀(m:List ((Int×aE)×Bool))(a:Int)(s:aE),eM (some (.bool false)) false (bj true 2 [(0,1),(1,2)] (.agg [iV a,.str s]) (bR qz dJ m 0) 0)=some (.bool (Al ku (a,s) m)):=fun m a s=>AU LR m (a,s)
  have hup:∀(m:List ((Int×aE)×Bool))(a:Int)(s:aE),qC (bR qz dJ m 0) m.length (.agg [iV a,.str s]) (.bool true) (bj true 2 [(0,1),(1,2)] (.agg [iV a,.str s]) (bR qz dJ m 0) 0)=some (bR qz dJ (eW ku (a,s) true m) 0,(eW ku (a,s) true m).length):=fun m a s=>DG LR m (a,s)
  have r1:=WD u.head h1 h5
  have r2:=WD u.words h2 h6
  have r3:=uD u.label h4
  have rr0 b' (h:(jH u)=b':=by first|(rw[jH,hj0,lx];simp only[En,ba,pe,cond_true,cond_false,aS,az,bS,yG,Bool.false_and,Bool.not_true,CX,Bool.true_and, *];first|done|rfl)|(simp only[jH,En,ba,pe,cond_true,cond_false,aS,az,bS, *];done)|(simp only[jH,lx,En,ba,pe,cond_true,cond_false,aS,az,bS, *];done)|(simp only[jH,lx,En,ba,pe,cond_true,cond_false,aS,az,bS,yG,Bool.false_and,Bool.not_true,CX,Bool.true_and, *];first|done|rfl)):=h;exact bF Tryz.func348<|Kj 4 u.kind 0 (fun _ b=>Kn 3 (dL u.label (ByteArray.mk #[]).data.toList) (fun b=>Mt (cA b)<|Mt (cA b)<|Mt (cA b)<|Mt (cA b)<|Mt (cA b)<|Mt (cA b)<|Mt (cA b)<|MV (cA b)<|Ky 1<|rr0 false) fun c=>Kh 0 (cw c)<|Kh 0 (cw c)<|Kl 0 16 (ln aQ u.head)<|Mh (cw c)<|Kh 0 (cw c)<|Kh 0 (cw c)<|Kl 0 19 (ln aQ u.words)<|Mh (cw c)<|Kl 0 20 (Le.wr (x:=Int.ofNat u.head.length+Int.ofNat u.words.length) eB)<|Mh (cw c)<|Kw 0 (cw c)<|Mb (ao 0<|Int.ofNat u.head.length+Int.ofNat u.words.length) (fun b=>have:=ae b;Ky 0<|rr0 false) fun c=>have:=af c;Kl 4 48 (ln aY u.kids)<|Mg 0<|M9 aY u.kids ([]:List ((Int×aE)×Bool)) [1,3,47,48,49] (fun b _ c=>([bK 0 0 0 0,AV.map 1,aW<|u.kids.map aY,nV u.kids.length,nV b],[aZ 8 false 0 [aw [iV u.act,iV u.item,iV u.n,iV u.kind,aj u.label,aW<|u.head.map aQ,aW<|u.words.map aQ,aW<|u.kids.map aY]],AObj.map (bR qz dJ c 0) c.length])) (fun b c=>lx u.kind u.kids []=lx u.kind b c) (by rfl) (fun _ _ _ _ _ _ b hj0=>Kh 0 b<|Kl 2 74 (ln aY u.kids)<|Kf 1<|bT<|rr0<|az<|ao 64<|Int.ofNat u.kids.length) fun c _ d _ _ e f g _ i _ j hj0=>have j:=j.trans<|congrArg some<|aD e;Kt 0 i<|Mx j<|Kl 11 59 (pR (k:=IntKind.i64) b)<|Kp 1 (zM 0 e.kind)<|Kn 1 (iJ 0 e.kind) (fun b=>Mt (cA b)<|Mt (cA b)<|MV (cA b)<|Ky 1<|rr0 false) fun b=>Kh 0 (cw b)<|Kh 0 (cw b)<|M1 (.look<|fK<|Al ku (e.kind,e.label) d) (hlk d e.kind e.label)<|My (cw b)<|Mb (Al ku (e.kind,e.label) d) (fun _=>Kf 0<|bT<|rr0 false) fun _=>K1 1 (.upd (bR qz dJ (eW ku (e.kind,e.label) true d) 0) (eW ku (e.kind,e.label) true d).length) (hup d e.kind e.label)<|Kl 0 71 (dm c)<|K1 0 (.frz 2 [1,3,47,48,49]) (ct (tM (eW ku (e.kind,e.label) true d).length 2 (by exact cj LR AR _ _:ft (bR qz dJ (eW ku (e.kind,e.label) true d) 0)=0)) rt ti)<|Mf<|g (eW ku (e.kind,e.label) true d)<|by(rw[hj0,lx];simp only[aS,az,bS, *];done)) fun _ _=>Kp 1 (xj u.kind)<|Kb 1 (dL (dW u.kind) (ByteArray.mk #[]).data.toList) (fun b=>Mt b<|Mt b<|Mt b<|MV b<|Ky 5<|rr0 false) fun b=>Kh 0 b<|Kh 0 b<|Mp r3<|Mh b<|Kw 0 b<|Kn 0 (fS u.label) (fun b=>Mt (cA b)<|Mt (cA b)<|Mt (cA b)<|MV (cA b)<|Ky 3<|rr0 false) fun b=>Kh 0 (cw b)<|Kh 0 (cw b)<|Mp r1<|Mh (cw b)<|Kw 0 (cw b)<|Kn 0 (dz u.head) (fun b=>Mt (cA b)<|Mt (cA b)<|Mt (cA b)<|MV (cA b)<|Ky 1<|rr0 false) fun b=>Kh 0 (cw b)<|Kh 0 (cw b)<|Mp r2<|Mh (cw b)<|Kw 0 (cw b)<|Mn (dz u.words) (fun _=>Ky 0<|rr0 false) fun _=>Kl 4 48 (ln aY u.kids)<|Mg 0<|M9 aY u.kids ([]:List ((Int×aE)×Bool)) [1,3,47,48,49] (fun b _ c=>([bK 0 0 0 0,AV.map 1,aW<|u.kids.map aY,nV u.kids.length,nV b],[aZ 8 false 0 [aw [iV u.act,iV u.item,iV u.n,iV u.kind,aj u.label,aW<|u.head.map aQ,aW<|u.words.map aQ,aW<|u.kids.map aY]],AObj.map (bR qz dJ c 0) c.length])) (fun b c=>lx u.kind u.kids []=lx u.kind b c) (by rfl) (fun _ _ _ _ _ _ b hj0=>Kh 0 b<|Kl 2 74 (ln aY u.kids)<|Kf 1<|bT<|rr0<|az<|ao 64<|Int.ofNat u.kids.length) fun b _ c _ _ d e f _ g _ i hj0=>have i:=i.trans<|congrArg some<|aD d;Kt 0 g<|Mx i<|Kp 13 (zM u.kind d.kind)<|Kn 1 (iJ u.kind d.kind) (fun b=>Mt (cA b)<|Mt (cA b)<|MV (cA b)<|Ky 1<|rr0 false) fun g=>Kh 0 (cw g)<|Kh 0 (cw g)<|M1 (.look<|fK<|Al ku (d.kind,d.label) c) (hlk c d.kind d.label)<|My (cw g)<|Mb (Al ku (d.kind,d.label) c) (fun _=>Kf 0<|bT<|rr0 false) fun _=>K1 1 (.upd (bR qz dJ (eW ku (d.kind,d.label) true c) 0) (eW ku (d.kind,d.label) true c).length) (hup c d.kind d.label)<|Kl 0 71 (dm b)<|K1 0 (.frz 2 [1,3,47,48,49]) (ct (tM (eW ku (d.kind,d.label) true c).length 2 (by exact cj LR AR _ _:ft (bR qz dJ (eW ku (d.kind,d.label) true c) 0)=0)) rt ti)<|Mf<|f (eW ku (d.kind,d.label) true c)<|by(rw[hj0,lx];simp only[aS,az,bS, *];done)
theorem JO(u:TUnit)(hl:nU u<2^29):kC 228 [eU u,.func (.func 230) [] [.ptr 0 0 0 0]] (aa [.row 1 false 0 [.nils]])
    (fun v h=>∃y:Nat×Nat×List PId,(y.2.1=y.2.2.length∧y.2.2=cR u)∧v=.bool true∧h=aa [sb y.1 y.2.1,NG y.1 y.2.2]):=by
  have hq:=jv u
  have hkl:=bz u
  exact qB Tryz.func228 fun a=>K1 3 (.frz 1 [1,2,7,8]) (et rt ti)<|Me (Yk u)<|Kl 4 13 (ln aY u.kids)<|Mg 0<|PV aY u.kids (0:Nat) (1:Nat) ([ah u]:List PId) [1,12,13,14] (fun a _ b c d=>([bv (bw 230) [] [bK 0 0 0 0],aW<|u.kids.map aY,nV u.kids.length,nV a],[aZ 1 false 0 [aN 1 b 0 c none],aZ 3 true b<|d.map aJ])) (fun a _ b c=>b=c.length∧c++bx a=[ah u]++bx u.kids∧c.length+ef a<2^30) gR (fun _ _ b c d _ _ _ e f=>Kh 0 e<|Kf 0<|a (b,c,d)<|by(refine⟨f.1,?_⟩;have:=f.2.1;rw[lk,dO]at this;rw[this,gQ];rfl)) fun a _ b c d e f g i j k l _ m _=>have m:=(m).trans<|congrArg some<|aD g;have:=cX (J:=fun a b=>b.2.1=b.2.2.length∧b.2.2++bx a=[ah u]++bx u.kids∧b.2.2.length+ef a<2^30) (a:=(b,c,d)) k f;have:=aG e k;have e:d.length+nU g<2^30:=(by grind[bi]);Kt 0 l<|Mx m<|K1 4 (.frz 2 [1,12,13,14,18,19]) (ct (tR 3 true b 2<|aX AP d) rt ti)<|Mq (Oh g b c d oA e) fun b _=>Kl 2 22 (dm a)<|Kf 0<|j b.1 b.2.1 b.2.2<|by grind[bi,dC,uM]
theorem RB(u:TUnit)(hl:nU u<2^29):kP 134 [eU u] (.ls ((cR u).map aJ)):=by
  have rr0 b' (h:((cR u).map aJ)=b':=by(rw[hy0.2])):=h;exact bF Tryz.func134<|Mg 4<|M0 (.ren [1,0] [] [3,4,5])<|M1 (.frz 1 [3,4,5]) (et rt ti)<|Mq (JO u hl) fun a hy0=>Mg 1<|M2 (.fsl 0 [] 2<|a.2.2.map aJ) ti (ct (aK a.1) (tA aJ a.2.2 a.2.1 (oA:(a.2.2).length=a.2.1))<|aX AP a.2.2)<|Ml 2 (fG (a.2.2.map aJ) false<|aX AP a.2.2)<|Mf<|cJ<|rr0<|a.2.2.map aJ
theorem Yx(u:TUnit)(hl:nU u<2^20):kP 349 [eU u] (.bool (RD u)):=by
  have hb:(cR u).length<2^20:=by grind[uM]
  have hi:=RB u (by omega)
  have hlk:∀(m:List (PId×Bool))(a b c:Int),eM (some (.bool false)) false (bj true 3 [(0,1),(1,1),(2,1)] (.agg [iV a,iV b,iV c]) (bR aJ dJ m 0) 0)=some (.bool (Al aT ⟨a,b,c⟩ m)):=fun m a b c=>AU Ad m ⟨a,b,c⟩
  have hup:∀(m:List (PId×Bool))(a b c:Int),qC (bR aJ dJ m 0) m.length (.agg [iV a,iV b,iV c]) (.bool true) (bj true 3 [(0,1),(1,1),(2,1)] (.agg [iV a,iV b,iV c]) (bR aJ dJ m 0) 0)=some (bR aJ dJ (eW aT ⟨a,b,c⟩ true m) 0,(eW aT ⟨a,b,c⟩ true m).length):=fun m a b c=>DG Ad m ⟨a,b,c⟩
  have rr0 b' (h:(RD u)=b':=by((try clear gh1);(try clear gh2);(try clear gh3);(try clear gh4);(try clear gh5);(try clear gh6);(try clear gh7);have e:=Dw (kenc:=aJ) (f:=dJ) za0 0;simp only[e,lM]at *;simp only[RD,fI,aT,ah,b8,hj0,Nh,aS,az,bS, *];first|done|rfl)):=h;exact bF Tryz.func349<|Kp 2 hi<|Kl 4 12 (ln aJ<|cR u)<|Mg 0<|M9 aJ (cR u) ([]:List (PId×Bool)) [1,3,4,11,12,13] (fun d _ g=>([bK 0 0 0 0,aW<|(cR u).map aJ,AV.map 1,aW<|(cR u).map aJ,nV (cR u).length,nV d],[aZ 8 false 0 [aw [iV u.act,iV u.item,iV u.n,iV u.kind,aj u.label,aW<|u.head.map aQ,aW<|u.words.map aQ,aW<|u.kids.map aY]],AObj.map (bR aJ dJ g 0) g.length])) (fun d g=>Ch (cR u) []=Ch d g) (by rfl) (fun _ _ za0 _ _ _ d hj0=>Kh 0 d<|K1 1 (.look<|fK<|Al aT (PId.mk 0 0 0) za0) (hlk za0 0 0 0)<|Kb 2 (Al aT (PId.mk 0 0 0) za0) (fun d=>Kt 0 d<|Kt 0 d<|Ku 0 d<|Kj 0 (Int.ofNat (bR aJ dJ za0 0).length) 1 (fun d gh2=>Mt d<|Mt d<|Mt d<|Mt d<|Mt d<|Mt d<|MV d<|Ky 0<|rr0 true) fun d gh2=>Kh 0 d<|Kh 0 d<|Kh 0 d<|Kh 0 d<|Kh 0 d<|Kj 0 (Int.ofNat (bR aJ dJ za0 0).length) (Int.ofNat ((cR u).map aJ).length) (fun g gh3=>Kt 0 g<|Kt 0 g<|Kt 0 g<|Kt 0 g<|Kt 0 g<|Kt 0 g<|Mv (l9 ((Tryz.prog).underlying 27) u.act u.item u.n 0 0 0 h0)<|Mt g<|Kh 0 d<|MV g<|My d<|Kf 0<|bT<|rr0<|ak u.kind 0==(ak u.act 0&&(ak u.item 0&&ak u.n 0))) fun g gh3=>Mh g<|Mh g<|Mh g<|Mh g<|Mh g<|Mh g<|Mh g<|Mh d<|My g<|My d<|Ky 0<|rr0 false) fun d=>Mh d<|Mh d<|My d<|Kj 6 (Int.ofNat (bR aJ dJ za0 0).length) (Int.ofNat ((cR u).map aJ).length) (fun d gh4=>Kt 0 d<|Kt 0 d<|Kt 0 d<|Kt 0 d<|Kt 0 d<|Kt 0 d<|Mv (l9 ((Tryz.prog).underlying 27) u.act u.item u.n 0 0 0 h0)<|Mt d<|Ku 0 d<|Kf 1<|bT<|rr0<|ak u.kind 0==(ak u.act 0&&(ak u.item 0&&ak u.n 0))) fun d gh4=>Mh d<|Mh d<|Mh d<|Mh d<|Mh d<|Mh d<|Mh d<|My d<|Ky 1<|rr0 false) fun d _ za0 _ _ g i j _ k _ l hj0=>Kt 0 k<|Mx l<|K1 4 (.upd (bR aJ dJ (eW aT (PId.mk g.a g.i g.n) true za0) 0) (eW aT (PId.mk g.a g.i g.n) true za0).length) (hup za0 g.a g.i g.n)<|Kl 0 19 (ji d)<|K1 0 (.frz 2 [1,3,4,11,12,13]) (ct (tM (eW aT (PId.mk g.a g.i g.n) true za0).length 2 (by exact cj Ad AR _ _:ft (bR aJ dJ (eW aT (PId.mk g.a g.i g.n) true za0) 0)=0)) rt ti)<|Mf<|j (eW aT (PId.mk g.a g.i g.n) true za0)<|by(rw[hj0];rfl)
/-- What a tree's parts must be, so that the walks can count. -/
def oa(x:TUnit):Prop:=x.head.length≤300∧x.words.length≤300∧x.label.length≤2^39∧(∀w,w∈x.head→w.text.length≤2^39)∧∀w,w∈x.words→w.text.length≤2^39
def m8(u:TUnit):Prop:=nU u≤2^19∧∀x,x∈bW u→oa x
theorem HD(u:TUnit)(h:m8 u):kP 228 [eU u,.func (.func 348) [] []] (.bool (vc jH u)):=
  MK 348 jH u
    (fun x hx=>by
      obtain⟨a,b,c,d,e⟩:=h.2 x hx
      have h1:=bz x
      have h2:=eJ hx
      have h3:=h.1
      grind[Ty])
    (by have h1:=bz u;have h3:=h.1;omega)
    (fun x hx=>by
      have h1:=bz x
      have h2:=eJ hx
      have h3:=h.1
      omega)
theorem yJ(u:TUnit)(h:m8 u):kP 300 [eU u] (.bool (kV u)):=by
  have h1:=h.1
  have e1:=HD u h
  have e2:=H2 u (by omega)
  have e3:=E3 u (by omega)
  have e4:=Yx u (by omega)
  have hd:=E1 u
  have rr0 b' (h:(kV u)=b':=by(simp only[kV,aS,az,bS, *];done)):=h;exact bF Tryz.func300<|Kp 2 e1<|Kb 0 (vc jH u) (fun a=>Kt 0 a<|Mp e2<|Mt a<|Ku 0 a<|Kn 0 (ao 8<|Int.ofNat<|nC u) (fun a=>Kt 0 (cA a)<|Mp e3<|Mt (cA a)<|Ku 0 (cA a)<|Kn 0 (ao 1024<|Int.ofNat<|nU u) (fun a=>Kt 0 (cA a)<|Mp e4<|MV (cA a)<|Kf 0<|bT<|rr0<|RD u) fun a=>Mh (cw a)<|My (cw a)<|Ky 0<|rr0 false) fun a=>Mh (cw a)<|Mh (cw a)<|My (cw a)<|Ky 2<|rr0 false) fun a=>Mh a<|Mh a<|My a<|Ky 4<|rr0 false
theorem sW(l:List PWord)(hl:l.length<2^30):kP 183 [.ls (l.map aQ)] (.ls (l.map aQ)):=by
  cases l with
  |nil=>exact bQ.ls0 (SR.less Le.nils) (SP.lessB (u:=.ls []) (by kernel_rfl))
  |cons w r=>grind[SS]
noncomputable abbrev wF:AObj:=.row 8 false 0 [.agg [iV 0,iV 0,iV 0,iV 0,.str [],.nils,.nils,.nils]]
theorem H8:∀(u:TUnit),nU u≤2^20→(∀x,x∈bW u→x.head.length<2^30∧x.words.length<2^30)→kP 87 [eU u] (eU u):=by
  refine TUnit.ind fun u ih hn ht=>?_
  have hkl:=bz u
  have c1:=sW u.head (ht u (bq u)).1
  have c2:=sW u.words (ht u (bq u)).2
  have ihk:∀k,k∈u.kids→kP 87 [eU k] (eU k):=fun k hk=>ih k hk (bL (mj (gI hk)) hn) (fun x hx=>ht x (bX hk hx))
  have rr0 b' (h:(u.kids.map aY)=b':=by first|rfl|(rw[←hj0];rfl)|(rw[←hj0.2.2.1,dO])):=h;let q1:=List.map aQ u.words;let q2:=List.map aQ u.head;exact bF Tryz.func87<|Kp 3 c1<|Kp 1 c2<|Kl 7 16 (ln aY u.kids)<|Mg 0<|kZ Nat Nat (List TUnit) aY u.kids [1,2,3,15,16,17] (fun a _=>([bK 0 0 0 0,bK 1 0 0 0,ab,aW<|u.kids.map aY,nV u.kids.length,nV a],[aZ 8 false 0 [aw [iV u.act,iV u.item,iV u.n,iV u.kind,aj u.label,aW<|u.head.map aQ,aW<|u.words.map aQ,aW<|u.kids.map aY]],aZ 8 false 0 [aw [iV 0,iV 0,iV 0,iV 0,aj [],ab,ab,ab]]])) (fun a _ b c d=>([bK 0 0 0 0,bK 1 0 0 0,aN 2 b 0 c none,aW<|u.kids.map aY,nV u.kids.length,nV a],[aZ 8 false 0 [aw [iV u.act,iV u.item,iV u.n,iV u.kind,aj u.label,aW<|u.head.map aQ,aW<|u.words.map aQ,aW<|u.kids.map aY]],aZ 8 false 0 [aw [iV 0,iV 0,iV 0,iV 0,aj [],ab,ab,ab]],aZ 8 true b<|d.map aY])) (fun a=>a=u.kids) (fun a _ b c=>b=c.length∧(0:Nat)<c.length∧c++a=u.kids∧c.length+a.length=u.kids.length) (by rfl) (fun _ _ _ _ _ a hj0=>Kh 0 a<|Kl 0 27 bM<|Kf 3 (aR (lc<|lc<|lc<|lc<|lc<|lc<|lc<|.cons (cJ<|rr0 []) .nil)<|by kernel_rfl:Le _ (AV.agg [iV u.act,iV u.item,iV u.n,iV u.kind,AV.str u.label,AV.ls q2,AV.ls q1,AV.ls []]))) (fun a _ _ b c d _ e f g _ i _=>have i:=(i).trans<|congrArg some<|aD c;have hj0:=cX (J:=fun a _=>a=u.kids) (a:=()) f b;Kt 0 g<|Mx i<|Kp 4 (ihk c gR)<|K1 1 (.obj 3<|aZ 8 true 0<|List.map aY [c]) (congrArg (aZ 8 true 0)<|VX (f:=aY) (g:=Go.Ev.eU) (ws:=[c]) aD)<|Kl 1 26 (dm a)<|K1 0 (.ren [0,1,3,2] [3] [1,2,3,15,16,17]) (tS 8 true 0<|aX ic [c])<|M1 (.frz 3 [1,2,3,15,16,17]) (kL (tR 8 true 0 3<|aX ic [c]) rt rt ti)<|Mf<|e 0 1 [c]<|by(refine⟨rfl,by simp,?_,?_⟩<;>(rw[←hj0])<;>(first|rfl|grind))) (fun _ _ a b c _ _ _ d hj0=>let e:=List.map aY c;Kh 0 d<|Mg 0<|M2 (.fsl 2 [1,2] 27 e) (ct rt rt ti) (ct (aK a) (tA aY c b (oA:(c).length=b))<|aX ic c)<|Ml 27 (fG e false<|aX ic c)<|Kf 3 (aR (lc<|lc<|lc<|lc<|lc<|lc<|lc<|.cons (cJ<|rr0 e) .nil)<|by kernel_rfl:Le _ (AV.agg [iV u.act,iV u.item,iV u.n,iV u.kind,AV.str u.label,AV.ls q2,AV.ls q1,AV.ls e]))) fun a _ b c d _ e f g _ i j l _ n _=>have n:=(n).trans<|congrArg some<|aD f;have hj0:=cX (J:=fun a b=>b.2.1=b.2.2.length∧(0:Nat)<b.2.2.length∧b.2.2++a=u.kids∧b.2.2.length+a.length=u.kids.length) (a:=(b,c,d)) j e;Kt 0 l<|Mx n<|Kp 4 (ihk f gR)<|K1 0 .app (ct (aK b) (sA:c=(d.map aY).length) (by(refine au (m:=2^21) ?_ ?_ ?_<;>omega):small (c+1) 120=true))<|M1 (.obj 2<|aZ 8 true (b+1)<|(d++[f]).map aY) (congrArg (aZ 8 true<|b+1)<|yg (f:=aY) (g:=Go.Ev.eU) (l:=d) (ws:=[f]) aD)<|Kl 1 26 (dm a)<|K1 0 (.frz 3 [1,2,3,15,16,17]) (kL (tR 8 true (b+1) 3<|aX ic<|d++[f]) rt rt ti)<|Mf<|i (b+1) (c+1) (d++[f])<|by(refine⟨by simp_all,by simp,?_,?_⟩<;>first|(rw[←hj0.2.2.1];simp;done)|grind)
theorem Yi(p:PId)(u:TUnit)(h:By (b7 p u) true)(hn:nU u≤2^20)(ht:∀x,x∈bW u→x.head.length<2^30∧x.words.length<2^30):kP 48 [eU u,aJ p] (.tuple [eU (dZ p u),.bool true]):=by
  have hw:=FL p u h hn
  have hlen:=mh (p:=p) u
  have hpos:0<(aF p u).length:=qr.2 (ko h)
  have hm:dZ p u∈bW u:=KO u _ (Sq h)
  have hf:dZ p u=gD (aF p u) ((aF p u).length -1):=by unfold dZ;simp_all
  have hc:=H8 (dZ p u) (bL (eJ hm) hn) (fun x hx=>ht x (by
    grind[eD]))
  rw[hf]at hc ⊢
  have hz:=Sf hpos
  exact bF Tryz.func48<|Kp 5 hw<|Kl 2 11 (ln aY<|aF p u)<|Kh 0 hz<|Kl 2 16 (ln aY<|aF p u)<|Kl 0 17 (Fl (aF p u).length)<|Mx ((bJ aY (oA:(aF p u).length -1<(aF p u).length)).trans<|congrArg some<|aD _)<|Kp 0 hc<|Kf 1<|bu<|cn [aw [iV (gD (aF p u)<|(aF p u).length -1).act,iV (gD (aF p u)<|(aF p u).length -1).item,iV (gD (aF p u)<|(aF p u).length -1).n,iV (gD (aF p u)<|(aF p u).length -1).kind,aj (gD (aF p u)<|(aF p u).length -1).label,aW<|List.map aQ (gD (aF p u)<|(aF p u).length -1).head,aW<|List.map aQ (gD (aF p u)<|(aF p u).length -1).words,aW<|List.map aY (gD (aF p u)<|(aF p u).length -1).kids],fK true]
theorem Ym(p:PId)(u:TUnit)(h:By (b7 p u) false)(hn:nU u≤2^20):kP 48 [eU u,aJ p] (.tuple [eU be,.bool false]):=by
  have hw:=KN p u h hn
  exact bF Tryz.func48<|Kp 5 hw<|Kf 7 (cH<|.cons (aR (lc<|lc<|lc<|lc<|lc<|.cons bM<|.cons bM<|.cons bM .nil)<|by kernel_rfl)<|lc .nil:Le _ (cn [aw [iV 0,iV 0,iV 0,iV 0,aj [],ab,ab,ab],fK false]))
theorem SU(p:PId)(u:TUnit)(hn:nU u≤2^20)(ht:∀x,x∈bW u→x.head.length<2^30∧x.words.length<2^30):kP 48 [eU u,aJ p] (.tuple [eU (dZ p u),.bool (b7 p u)]):=by
  cases h:b7 p u with
  |true=>grind[Yi]
  | false=>
    have:=Ym p u h hn
    rwa[show be=dZ p u by unfold dZ;simp_all]at this
theorem ifW(l:List PWord)(g:Nat)(q:PWord→Bool)(hp:∀k,k∈l→kP g [aQ k] (.bool (q k)))(hl:l.length<2^40):kP 350 [.ls (l.map aQ),.func (.func g) [] []] (iV (dE q l 0)):=by
  have rr0 b' (h:(dE q l 0)=b':=by first|exact mD zd0 hr0 hj0 ‹_› |exact hj0):=h;exact bF Tryz.func350<|Kl 2 7 (ln aQ l)<|Mg 0<|wg aQ l [0,1,7,8] (fun a _=>([aW<|l.map aQ,bv (bw g) [] [],nV l.length,nV a],[])) (fun a=>dE q l (0:Nat)=dE q a (l.length-a.length)) sA (fun _ _ zd0 _ hr0 a hj0=>Kh 0 a<|Kf 0<|li<|rr0 (-1)) fun a _ zd0 _ b c d hr0 e _ f hj0=>Kt 0 e<|Kx 4 f<|Kp 0 (hp b<|by exact aG zd0 hr0)<|Mb (q b) (fun _=>Kf 1<|li<|rr0<|Int.ofNat a) fun _=>Kl 0 18 (dm a)<|Kf 0<|d<|by exact km zd0 hr0 hj0 (by omega)
theorem cfW(l:List PWord)(g:Nat)(q:PWord→Bool)(hp:∀k,k∈l→kP g [aQ k] (.bool (q k)))(hl:l.length<2^40):kP 303 [.ls (l.map aQ),.func (.func g) [] []] (.bool (l.any q)):=by
  have h:=ifW l g q hp hl
  have rr0 b' (h:(l.any q)=b':=by(rw[lP];simp only[aS,az,bS,oQ])):=h;exact bF Tryz.func303<|Kp 2 h<|Kf 1<|bT<|rr0<|az<|ao (dE q l 0) 0
theorem CT(w:PWord):kP 302 [aQ w] (.bool (pn w)):=by
  exact bF Tryz.func302<|Kv 4 (GA ((Tryz.prog).underlying 62) w.act w.item w.at_ 0 0 0<|aa [aZ 4 false 0 [aw [aj w.text,iV w.act,iV w.item,iV w.at_]]])<|Kf 0<|bu<|fK<|az<|ak w.act 0&&(ak w.item 0&&ak w.at_ 0)
theorem TW(u:TUnit)(h1:u.head.length<2^40)(h2:u.words.length<2^40):kP 301 [eU u] (.bool (Do u)):=by
  have c1:=cfW u.head 302 pn (fun k _=>CT k) h1
  have c2:=cfW u.words 302 pn (fun k _=>CT k) h2
  have rr0 b' (h:(Do u)=b':=by(simp only[Do,fI,aT,ah,b8,aS,az,bS, *];first|done|rfl)):=h;exact bF Tryz.func301<|Kv 5 (l9 ((Tryz.prog).underlying 27) u.act u.item u.n 0 0 0<|aa [aZ 8 false 0 [aw [iV u.act,iV u.item,iV u.n,iV u.kind,aj u.label,aW<|u.head.map aQ,aW<|u.words.map aQ,aW<|u.kids.map aY]]])<|Kb 0 (ak u.act 0&&(ak u.item 0&&ak u.n 0)) (fun a=>Kt 0 a<|Kt 0 a<|Kt 0 a<|Mp c1<|Mt a<|Ku 0 a<|Kn 0 (u.head.any pn) (fun a=>Kt 0 (cA a)<|Kt 0 (cA a)<|Kt 0 (cA a)<|Mp c2<|Mt (cA a)<|Ku 0 (cA a)<|Kf 0<|bT<|rr0<|az<|u.words.any pn) fun a=>Mh (cw a)<|Mh (cw a)<|Mh (cw a)<|Mh (cw a)<|My (cw a)<|Ky 0<|rr0 false) fun a=>Mh a<|Mh a<|Mh a<|Mh a<|My a<|Ky 2<|rr0 false
theorem Y5(u:TUnit)(h:m8 u):kP 244 [eU u] (.bool (Dp u)):=by
  have e1:=yJ u h
  have e2:=MK 301 Do u (fun x hx=>by
      obtain⟨a,b,_⟩:=h.2 x hx
      grind[TW]) (by have h1:=bz u;have h3:=h.1;omega) (fun x hx=>by
      have h1:=bz x
      have h2:=eJ hx
      have h3:=h.1
      omega)
  have rr0 b' (h:(Dp u)=b':=by(simp only[Dp,aS,az,bS, *];first|done|rfl)):=h;exact bF Tryz.func244<|Kp 2 e1<|Kb 0 (kV u) (fun c=>Kt 0 c<|Mp e2<|MV c<|Kf 0<|bT<|rr0<|vc Do u) fun c=>Mh c<|My c<|Ky 0<|rr0 false
theorem NL(p:PId)(u:TUnit)(hh:b7 p u=false)(hn:nU u≤2^20):kP 148 [eU u,aJ p] (.tuple [aJ b8,iV (-1),.bool false]):=by
  have hw:=KN p u hh hn
  exact bF Tryz.func148<|Kp 6 hw<|Kf 8<|bu<|cn [aw [iV 0,iV 0,iV 0],iV (-1),fK false]
theorem NI(p:PId)(u:TUnit)(hh:b7 p u=true)(hl:ao (Int.ofNat (aF p u).length) 2=true)(hn:nU u≤2^20):kP 148 [eU u,aJ p] (.tuple [aJ b8,iV (-1),.bool false]):=by
  have hw:=FL p u hh hn
  exact bF Tryz.func148<|Kp 6 hw<|Kl 2 14 (ln aY<|aF p u)<|Kt 0 hl<|Kf 3<|bu<|cn [aw [iV 0,iV 0,iV 0],iV (-1),fK false]
theorem Qf(p:PId)(u:TUnit)(h:gP p u=false)(hn:nU u≤2^20):kP 148 [eU u,aJ p] (.tuple [aJ b8,iV (-1),.bool false]):=by
  grind[NL,NI,gP]
theorem Qd(p:PId)(u:TUnit)(h:gP p u=true)(hn:nU u≤2^20):kP 148 [eU u,aJ p] (.tuple [aJ (rQ p u),iV (rZ p u),.bool true]):=by
  have hl:ao (Int.ofNat (aF p u).length) 2=false:=by grind[gP]
  have hl2:2≤(aF p u).length:=by have:=af hl;grind
  have hh:b7 p u=true:=by
    cases e:b7 p u with
    |true=>rfl
    |false=>grind[RL]
  have hw:=FL p u hh hn
  have hlen:=mh (p:=p) u
  have hm:II p u∈bW u:=KO u _ (fp (by omega))
  have hkn:∀k,k∈(II p u).kids→nU k≤2^20:=fun k hk=>bL (eJ (eD hm (Er hk))) hn
  have hkl:(II p u).kids.length<2^40:=by have:=bz (II p u);have:=eJ hm;omega
  have hi:=aa9 (II p u).kids 242 p (b7 p) (fun k hk=>by
    grind[b7,NM,NN]) hkl
  rw[Jx h,Jj h]
  generalize hG:II p u=y at *
  have hG2:gD (aF p u) ((aF p u).length -2)=y:=hG
  have rr0 b' (h:((ah y).a)=b':=by(rw[hG2];rfl)):=h;have rr1 b' (h:((ah y).i)=b':=by(rw[hG2];rfl)):=h;have rr2 b' (h:((ah y).n)=b':=by(rw[hG2];rfl)):=h;exact bF Tryz.func148<|Kp 6 hw<|Kl 2 14 (ln aY<|aF p u)<|Kh 0 hl<|Kl 2 19 (ln aY<|aF p u)<|Kl 0 20 (bA (x:=Int.ofNat (aF p u).length -(2:Int)) (n:=(aF p u).length -2) eB)<|Mx ((bJ aY (oA:(aF p u).length -2<(aF p u).length)).trans<|congrArg some<|aD _)<|Mg 5<|M0 (.ren [2,3,0,1] [] [4,8,24,25])<|M1 (.frz 2 [4,8,24,25]) (ct rt rt ti)<|Mp (bQ.onArgs (.cons (cJ (by(rw[hG2];done):(y.kids.map aY)=(List.map aY (gD (aF p u) ((aF p u).length -2)).kids)))<|lc .nil) hi:kP 241 [aW (List.map aY (gD (aF p u) ((aF p u).length -2)).kids),bv (bw 242) [] [AV.pptr [aw [iV p.a,iV p.i,iV p.n]] 0 0]] _)<|Kf 6 (cH<|.cons (aR (.cons (li<|rr0 (gD (aF p u)<|(aF p u).length -2).act)<|.cons (li<|rr1 (gD (aF p u)<|(aF p u).length -2).item)<|.cons (li<|rr2 (gD (aF p u)<|(aF p u).length -2).n) .nil)<|by kernel_rfl)<|lc<|lc .nil:Le _ (cn [aw [iV (gD (aF p u) ((aF p u).length -2)).act,iV (gD (aF p u) ((aF p u).length -2)).item,iV (gD (aF p u) ((aF p u).length -2)).n],iV (dE (b7 p) y.kids 0),fK true]))
theorem Qe(p:PId)(u:TUnit)(hn:nU u≤2^20):kP 148 [eU u,aJ p] (.tuple [aJ (rQ p u),iV (rZ p u),.bool (gP p u)]):=by
  grind[gP,Qd,XD,Qh,Qf]
theorem aav(p:PId)(u:TUnit)(h:b7 p u=false)(hn:nU u≤2^20):kP 226 [eU u,aJ p] (.ls ((qc p u).map aJ)):=by
  have hw:=KN p u h hn
  have e:qc p u=[]:=by unfold qc;rw[Ao h];rfl
  rw[e]
  let q:=[aZ 8 false 0 [aw [iV u.act,iV u.item,iV u.n,iV u.kind,aj u.label,aW (u.head.map aQ),aW (u.words.map aQ),aW (u.kids.map aY)]],aZ 3 false 0 [aw [iV p.a,iV p.i,iV p.n]]];let q1:=[ab,ab,iV (IntKind.i64.wrap (0-2))];exact bF Tryz.func226<|Kp 5 hw<|Mg 4<|MO0 [5,6,7] (q1,q) True 0 ti fun _ _=>Kf 4 bM
theorem aau(p:PId)(u:TUnit)(h:b7 p u=true)(hn:nU u≤2^20):kP 226 [eU u,aJ p] (.ls ((qc p u).map aJ)):=by
  have hw:=FL p u h hn
  have hlen:=mh (p:=p) u
  have hpos:0<(aF p u).length:=qr.2 (ko h)
  have hac:=Ds p u
  have rr0 b' (h:((qc p u).map aJ)=b':=by first|rfl|(rw[Tk hx0 ‹_›];rfl)|(rw[Tw hx0.2.1 oA ‹_›])):=h;exact bF Tryz.func226<|Kp 5 hw<|Kl 0 6 (fG ((aF p u).map aY) false<|aX ic<|aF p u)<|Kl 1 12 (ln aY<|aF p u)<|Kl 0 13 (Le.wr (x:=Int.ofNat (aF p u).length -2) eB)<|K1 0 (.frz 0 [5,6,7]) ti<|Tp Int Nat Nat (List PId) (Int.ofNat (aF p u).length -2) [5,6,7] (fun a=>([ab,aW<|(aF p u).map aY,iV a],[])) (fun a b c d=>([aN 0 b 0 c none,aW<|(aF p u).map aY,iV a],[aZ 3 true b<|d.map aJ])) (fun a=>a=Int.ofNat (aF p u).length -(2:Int)) (fun a _ b c=>b=c.length∧c=o4 p u (a+(1:Int)).toNat∧((-1):Int)≤a∧a+(2:Int)≤↑(aF p u).length∧c.length≤(aF p u).length) (fun a=>(a+1).toNat) (fun a _ _ _=>(a+1).toNat) (by rfl) (fun a hx0 _ b=>have hx0:=hx0;Kd 1 a 0 (fun _ _=>Kl 2 20 (Bi (x:=a) oA)<|Mx ((bJ aY (gR:a.toNat<(aF p u).length)).trans<|congrArg some<|aD _)<|Kl 6 17 (Le.wr (x:=a-1) eB)<|Kf 0<|b (a-1) 0 1 [PId.mk (gD (aF p u) a.toNat).act (gD (aF p u) a.toNat).item (gD (aF p u) a.toNat).n] (by exact⟨rfl,OR hx0 (by omega),by omega,by grind,by grind⟩) oA) fun _ _=>Kf 1 (Le.lsn<|rr0 []:Le _ (ab))) fun a b c d hx0 _ e=>have hx0:=hx0;Kd 1 a 0 (fun _ _=>Kl 2 20 (Bi (x:=a) oA)<|Mx ((bJ aY (oA:a.toNat<(aF p u).length)).trans<|congrArg some<|aD _)<|K1 2 .app (ct (aK b) (sA:c=(d.map aJ).length) (by(refine au (m:=2^21) ?_ ?_ ?_<;>omega):small (c+1) 24=true))<|M1 (.obj 0<|aZ 3 true (b+1)<|(d++[PId.mk (gD (aF p u) a.toNat).act (gD (aF p u) a.toNat).item (gD (aF p u) a.toNat).n]).map aJ) (congrArg (aZ 3 true<|b+1)<|cp (f:=aJ) (l:=d) (ws:=[PId.mk (gD (aF p u) a.toNat).act (gD (aF p u) a.toNat).item (gD (aF p u) a.toNat).n]))<|Kl 2 17 (Le.wr (x:=a-1) eB)<|Kf 0<|e (a-1) (b+1) (c+1) (d++[PId.mk (gD (aF p u) a.toNat).act (gD (aF p u) a.toNat).item (gD (aF p u) a.toNat).n]) (by exact⟨by simp_all,Ic hx0.2.1 hx0.2.2.2.1 (by omega),by omega,by omega,by(have z:=Ic hx0.2.1 hx0.2.2.2.1 (by omega);grind)⟩) oA) fun _ _=>Mg 1<|M2 (.fsl 0 [] 4<|d.map aJ) ti (ct (aK b) (tA aJ d c (oA:(d).length=c))<|aX AP d)<|Ml 4 (fG (d.map aJ) false<|aX AP d)<|Mf<|cJ<|rr0<|d.map aJ
theorem Ib(p:PId)(u:TUnit)(hn:nU u≤2^20):kP 226 [eU u,aJ p] (.ls ((qc p u).map aJ)):=by
  grind[aau,aav]
end Go.Proofs.YtidehekfpcgelaaGreatDoor
