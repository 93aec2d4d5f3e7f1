/- Functions walked: what each of them answers, for the law of the book's root: part 1. Conditions: those that each theorem names. -/
import Derived.Test.YtjokefckffbpeaaGreatDoorCmb
import Derived.Test.YtjokefckffbpeaaGreatDoorLay
import Derived.Test.YtjokefckffbpeaaGreatDoorLay2
namespace Go.Proofs.YtjokefckffbpeaaGreatDoor
open Go Go.Ev
noncomputable abbrev ch:=@Le.bool
noncomputable abbrev aW:=@AV.ls
noncomputable abbrev aa:=@AV.agg
noncomputable abbrev ax:=@AV.str
noncomputable abbrev bY:=@AV.func
noncomputable abbrev bV:=@Fn.func
noncomputable abbrev e9:=@Le.ps
noncomputable abbrev iR:=@AV.ps
noncomputable abbrev bd:=@Le.refl
noncomputable abbrev eC:=@AV.bool
noncomputable abbrev ct:=@Le.tuple
noncomputable abbrev bP:=@AV.tuple
noncomputable abbrev ay:=@AV.nils
noncomputable abbrev aZ:=@AObj.row
noncomputable abbrev fk:=@Se
noncomputable abbrev bz:=@AV.ptr
noncomputable abbrev aD:=@AV.slice
noncomputable abbrev be:=@Le.nils
noncomputable abbrev Z4:=@ARes.val
noncomputable def qx(x:PWord):Bool:=aj (aC 100 (.ofNat x.text.length))
noncomputable def mB(ws:List PWord):Bool:=ws.all qx&&aj (aC 300 (.ofNat ws.length))
theorem F7(x:Int):kP 54 [iV x] (.bool false):=by
  have rr0 b' (h:(false)=b':=by simp[bq]):=h;exact wk Tryz.func54 (.go 4 .fin)<|ch<|rr0<|aj<|ah x x
theorem pe(x y:Int):kP 35 [iV x,iV y] (iV (j6 x y)):=by
  have rr0 b' (h:(j6 x y)=b':=by simp[j6, *]):=h;exact bI Tryz.func35<|Kp 1 (F7 x)<|Kp 1 (F7 y)<|Kb 7 (aC x y) (fun _=>Kf 0<|li<|rr0 (-1)) fun _=>Kb 2 (aC y x) (fun _=>Kf 0<|li<|rr0 1) fun _=>Kf 0<|li<|rr0 0
theorem FZ(ws:List PWord)(hl:ws.length<2^60):kP 104 [.ls (ws.map aQ)] (.bool (mB ws)):=by
  have rr0 b' (h:(mB ws)=b':=by simp only[mB,qx,aS,aj,bS, *]):=h;exact bI Tryz.func104<|Mg 1<|uT aQ ws [0,3] (fun a _=>([aW<|ws.map aQ,nV a],[])) (fun a=>ws.all qx=a.all qx) (by rfl) (fun _ _ _ _ _ a _=>Kl 2 6 (ln aQ ws)<|Kh 0 a<|Kl 1 18 (ln aQ ws)<|Kf 1<|ch<|rr0<|aj<|aC 300<|Int.ofNat ws.length) fun a _ _ _ b c d _ e _ f _=>Kl 2 6 (ln aQ ws)<|Kt 0 e<|Kx 1 f<|Ka 3 100 (Int.ofNat<|List.length b.text) (fun _ _=>Ky 0<|rr0 false) fun _ _=>Kl 1 9 (dc a)<|Kf 0<|d<|by simp_all[qx]
mutual
noncomputable def kE:TUnit→Bool
  |⟨_,_,_,_,label,h,w,kids⟩=>aj (aC 30 (.ofNat label.length))&&mB h&&mB w&&yy kids
noncomputable def yy:List TUnit→Bool
  |[]=>true
  |u::r=>kE u&&yy r
end
theorem BA:∀(l:List TUnit),yy l=l.all kE
  |[]=>by rw[yy];rfl
  |u::r=>by rw[yy,BA r];rfl
theorem BB(u:TUnit):kE u=(aj (aC 30 (.ofNat u.label.length))&&mB u.head&&mB u.words&&u.kids.all kE):=by
  obtain⟨a,b,c,d,e,f,g,h⟩:=u
  rw[kE,BA];rfl
theorem Oj:∀(u:TUnit),oy u→kP 81 [eU u] (.bool (kE u)):=by
  refine TUnit.ind fun u ih hf=>?_
  obtain⟨f1,f2,f3,f4⟩:=ov.1 hf
  have rr0 b' (h:(kE u)=b':=by rw[BB];simp only[aS,aj,bS, *]):=h;exact bI Tryz.func81<|Ka 6 30 (Int.ofNat<|List.length u.label) (fun a _=>Mt a<|Mt a<|Mt a<|MV a<|Ky 3<|rr0 false) fun a _=>Kh 0 a<|Kh 0 a<|Mp (FZ u.head f1)<|Mh a<|Kw 0 a<|Kn 0 (mB u.head) (fun a=>Mt (cS a)<|Mt (cS a)<|Mt (cS a)<|MV (cS a)<|Ky 1<|rr0 false) fun a=>Kh 0 (cD a)<|Kh 0 (cD a)<|Mp (FZ u.words f2)<|Mh (cD a)<|Kw 0 (cD a)<|Mn (mB u.words) (fun _=>Ky 0<|rr0 false) fun _=>K1 0 (.frz 0 [1,3]) ti<|uT aV u.kids [1,3] (fun a _=>([AV.pptr [aa [iV u.act,iV u.item,iV u.n,iV u.kind,ax u.label,aW<|u.head.map aQ,aW<|u.words.map aQ,aW<|u.kids.map aV]] 0 0,nV a],[])) (fun a=>u.kids.all kE=a.all kE) (by rfl) (fun _ _ _ _ _ a _=>Kl 3 23 (ln aV u.kids)<|Kh 0 a<|Ky 0<|rr0 true) fun a _ b _ c d e f g _ i _=>have i:=i.trans<|congrArg some<|aR c;Kl 3 23 (ln aV u.kids)<|Kt 0 g<|Kx 2 i<|Kp 0 (ih c (by exact bQ b f)<|by exact f4 _ (bQ b f))<|Kn 0 (kE c) (fun _=>Kf 0<|ch<|rr0 false) fun _=>Kl 1 26 (dc a)<|Kf 0<|e sA
mutual
noncomputable def mr:TUnit→Int→Int→Int
  |⟨_,_,_,_,_,_,_,kids⟩,deep,most=>match aC 20 deep with|true=>most+1|false=>mA kids deep most 1
noncomputable def mA:List TUnit→Int→Int→Int→Int
  |[],_,_,n=>n
  |k::r,deep,most,n=>match aC most n with|true=>n|false=>mA r deep most (n+mr k (deep+1) (most-n))
end
theorem PX(u:TUnit)(deep most:Int):mr u deep most=match aC 20 deep with|true=>most+1|false=>mA u.kids deep most 1:=by
  obtain⟨a,b,c,d,e,f,g,h⟩:=u;rw[mr];rfl
mutual
theorem E9:∀(u:TUnit)(deep most:Int),0≤most→1≤mr u deep most∧mr u deep most≤most+1
  | ⟨_,_,_,_,_,_,_,kids⟩,deep,most,h=>by
    rw[mr]
    split
    · omega
    · exact FQ kids deep most 1 (by omega) (by omega)
theorem FQ:∀(l:List TUnit)(deep most n:Int),1≤n→n≤most+1→1≤mA l deep most n∧mA l deep most n≤most+1
  |[],_,_,n,h1,h2=>by grind[mA]
  | k::r,deep,most,n,h1,h2=>by
    rw[mA]
    split
    · omega
    · rename_i h
      have:=aG h
      have:=E9 k (deep+1) (most-n) (by omega)
      exact FQ r deep most _ (by omega) (by omega)
end
theorem SO:∀(u:TUnit),oy u→∀(deep most:Int),0≤deep→deep≤21→0≤most→most≤2^20→kP 80 [eU u,iV deep,iV most] (iV (mr u deep most)):=by
  refine TUnit.ind fun u ih hf deep most d1 d2 m1 m2=>?_
  obtain⟨f1,f2,f3,f4⟩:=ov.1 hf
  have rr0 b' (h:(mr u deep most)=b':=by rw[PX];simp only[mA,aS,aj,bS, *]):=h;exact bI Tryz.func80<|Ka 3 20 deep (fun _ _=>Kl 1 12 (Le.wr (x:=most+1) fc)<|Kf 0<|li<|rr0<|most+1) fun _ _=>K1 1 (.frz 0 [1,2,3,7,8]) ti<|OW aV u.kids (1:Int) [1,2,3,7,8] (fun a _ b=>([iV deep,iV most,AV.pptr [aa [iV u.act,iV u.item,iV u.n,iV u.kind,ax u.label,aW<|u.head.map aQ,aW<|u.words.map aQ,aW<|u.kids.map aV]] 0 0,iV b,nV a],[])) (fun a b=>(1:Int)≤b∧b≤most+(1:Int)∧mA u.kids deep most (1:Int)=mA a deep most b) oA (fun _ _ a _ _ _ b _=>Kl 3 16 (ln aV u.kids)<|Kh 1 b<|Mh b<|Mh b<|My b<|Kf 2<|li<|rr0 a) fun a _ b c _ d e f g i _ j _=>have j:=j.trans<|congrArg some<|aR d;Kl 3 16 (ln aV u.kids)<|Kt 1 i<|Kt 0 i<|Kt 0 i<|Ku 0 i<|Mn (aC most b) (fun i=>have:=aG i;Kx 3 j<|Kl 2 32 (Le.wr (x:=deep+1) fc)<|Kl 2 35 (Le.wr (x:=most-b) fc)<|Mp (ih d (by exact bQ c g) (by exact f4 _ (bQ c g)) (deep+1) (most-b) oA oA oA oA)<|have:=E9 d (deep+1) (most-b) oA;Kl 0 37 (Le.wr (x:=b+mr d (deep+1) (most-b)) fc)<|Kl 2 24 (dc a)<|Kf 0<|f (b+mr d (deep+1) (most-b))<|by(refine⟨by omega,by omega,?_⟩;first|rfl|grind[mA])) fun a=>have:=ap a;Kf 1<|li<|rr0 b
noncomputable def GC(u:TUnit)(most:Int):Bool:=aj (aC most (mr u 0 most))&&kE u
theorem Uk(u:TUnit)(most:Int)(hf:oy u)(m1:0≤most)(m2:most≤2^20):kP 59 [eU u,iV most] (.bool (GC u most)):=by
  have rr0 b' (h:(GC u most)=b':=by simp only[GC,aS,aj,bS, *]):=h;exact bI Tryz.func59<|Kp 3 (SO u hf 0 most oA oA m1 m2)<|Kn 2 (aC most<|mr u 0 most) (fun a=>Kt 0 (cS a)<|Mp (Oj u hf)<|MV (cS a)<|Kf 0<|ch<|rr0<|kE u) fun a=>Mh (cD a)<|My (cD a)<|Ky 0<|rr0 false
noncomputable def xi(s:aO):Bool:=aj (aC 100 (.ofNat s.length))
noncomputable def xh(s:PStep):Bool:=aj (aC 100 (.ofNat s.label.length))
noncomputable def yK(x:PItem):Bool:=
  aj (aC 12 (.ofNat x.at_.length))&&aj (aC 12 (.ofNat x.to.length))&&aj (aC 300 (.ofNat x.old.length))&&aj (aC 300 (.ofNat x.new.length))&&aj (aC 100 (.ofNat x.label.length))&&aj (aC 100 (.ofNat x.for_.length))
  &&aj (aC 100 (.ofNat x.start.event.length))&&aj (aC 100 (.ofNat x.event.length))&&aj (aC 2 (.ofNat x.by_.length))&&GC x.unit 30
noncomputable def G8(y:PItem):Bool:=aC 0 (.ofNat y.by_.length)&&aC 0 (.ofNat (gD y.by_ 0).by_.length)
mutual
noncomputable def mR:PItem→Bool
  |⟨k,a,t,w,nn,u,o,n,lb,fo,st,ac,it,dy,ev,by_⟩=>yK ⟨k,a,t,w,nn,u,o,n,lb,fo,st,ac,it,dy,ev,by_⟩&&(o.all xi&&(n.all xi&&(a.all xh&&(t.all xh&&GF by_))))
noncomputable def GF:List PItem→Bool
  |[]=>true
  |u::r=>(aj (G8 u)&&mR u)&&GF r
end
noncomputable def Hw(y:PItem):Bool:=aj (G8 y)&&mR y
theorem GE:∀(l:List PItem),GF l=l.all Hw
  |[]=>by rw[GF];rfl
  |u::r=>by rw[GF,GE r];rfl
theorem DH(x:PItem):mR x=(yK x&&(x.old.all xi&&(x.new.all xi&&(x.at_.all xh&&(x.to.all xh&&x.by_.all Hw))))):=by
  obtain⟨k,a,t,w,nn,u,o,n,lb,fo,st,ac,it,dy,ev,by_⟩:=x
  rw[mR,GE];rfl
theorem Uv:∀(x:PItem),nW x→kP 41 [eI x] (.bool (mR x)):=by
  refine PItem.ind fun x ih hf=>?_
  obtain⟨f1,f2,f3,f4,f5,f6,f7⟩:=qA.1 hf
  have hu:kP 59 [eU x.unit,iV 30] (.bool (GC x.unit 30)):=Uk x.unit 30 f6 (by omega) (by omega)
  have rr0 b' (h:(mR x)=b':=by rw[DH,yK];simp only[Hw,G8,xi,xh,aS,aj,bS, *]):=h;exact bI Tryz.func41<|Kl 4 10 (ln az x.at_)<|Ka 1 12 (Int.ofNat x.at_.length) (fun a _=>Mt a<|Mt a<|Mt a<|MV a<|Ky 17<|rr0 false) fun a _=>Kh 0 a<|Kh 0 a<|Kl 0 15 (ln az x.to)<|Mh a<|Kw 0 a<|Ka 0 12 (Int.ofNat x.to.length) (fun a _=>Mt a<|Mt a<|Mt a<|MV a<|Ky 15<|rr0 false) fun a _=>Kh 0 a<|Kh 0 a<|Kl 0 21 (ln m0 x.old)<|Mh a<|Kw 0 a<|Ka 0 300 (Int.ofNat x.old.length) (fun a _=>Mt a<|Mt a<|Mt a<|MV a<|Ky 13<|rr0 false) fun a _=>Kh 0 a<|Kh 0 a<|Kl 0 27 (ln m0 x.new)<|Mh a<|Kw 0 a<|Ka 0 300 (Int.ofNat x.new.length) (fun a _=>Mt a<|Mt a<|Mt a<|MV a<|Ky 11<|rr0 false) fun a _=>Kh 0 a<|Kh 0 a<|Kh 0 a<|Kw 0 a<|Ka 0 100 (Int.ofNat<|List.length x.label) (fun a _=>Mt a<|Mt a<|Mt a<|MV a<|Ky 9<|rr0 false) fun a _=>Kh 0 a<|Kh 0 a<|Kh 0 a<|Kw 0 a<|Ka 0 100 (Int.ofNat<|List.length x.for_) (fun a _=>Mt a<|Mt a<|Mt a<|Mt a<|MV a<|Ky 7<|rr0 false) fun a _=>Kh 0 a<|Kh 0 a<|Kh 0 a<|Kh 0 a<|Kw 0 a<|Ka 0 100 (Int.ofNat<|List.length x.start.event) (fun a _=>Mt a<|Mt a<|Mt a<|MV a<|Ky 5<|rr0 false) fun a _=>Kh 0 a<|Kh 0 a<|Kh 0 a<|Kw 0 a<|Ka 0 100 (Int.ofNat<|List.length x.event) (fun a _=>Mt a<|Mt a<|Mt a<|MV a<|Ky 3<|rr0 false) fun a _=>Kh 0 a<|Kh 0 a<|Kl 0 58 (ln NA x.by_)<|Mh a<|Kw 0 a<|Ka 0 2 (Int.ofNat x.by_.length) (fun a _=>Mt a<|Mt a<|Mt a<|MV a<|Ky 1<|rr0 false) fun a _=>Kh 0 a<|Kh 0 a<|Mp hu<|Mh a<|Kw 0 a<|Mn (GC x.unit 30) (fun _=>Ky 0<|rr0 false) fun _=>K1 0 (.frz 0 [1,3]) ti<|uT m0 x.old [1,3] (fun a _=>([AV.pptr [aa [iV x.kind,aW<|x.at_.map az,aW<|x.to.map az,iV x.where_,iV x.nth_,iV x.unit.act,iV x.unit.item,iV x.unit.n,iV x.unit.kind,ax x.unit.label,aW<|x.unit.head.map aQ,aW<|x.unit.words.map aQ,aW<|x.unit.kids.map aV,aW<|x.old.map m0,aW<|x.new.map m0,ax x.label,ax x.for_,iV x.start.kind,iV x.start.day,ax x.start.event,iV x.act,iV x.item,iV x.day,ax x.event,aW<|x.by_.map NA]] 0 0,nV a],[])) (fun a=>x.old.all xi=a.all xi) (by rfl) (fun _ _ _ _ _ a _=>Kl 3 70 (ln m0 x.old)<|Kh 0 a<|Mg 0<|uT m0 x.new [1,4] (fun a _=>([AV.pptr [aa [iV x.kind,aW<|x.at_.map az,aW<|x.to.map az,iV x.where_,iV x.nth_,iV x.unit.act,iV x.unit.item,iV x.unit.n,iV x.unit.kind,ax x.unit.label,aW<|x.unit.head.map aQ,aW<|x.unit.words.map aQ,aW<|x.unit.kids.map aV,aW<|x.old.map m0,aW<|x.new.map m0,ax x.label,ax x.for_,iV x.start.kind,iV x.start.day,ax x.start.event,iV x.act,iV x.item,iV x.day,ax x.event,aW<|x.by_.map NA]] 0 0,nV a],[])) (fun a=>x.new.all xi=a.all xi) (by rfl) (fun _ _ _ _ _ a _=>Kl 3 84 (ln m0 x.new)<|Kh 0 a<|Mg 0<|uT az x.at_ [1,5] (fun a _=>([AV.pptr [aa [iV x.kind,aW<|x.at_.map az,aW<|x.to.map az,iV x.where_,iV x.nth_,iV x.unit.act,iV x.unit.item,iV x.unit.n,iV x.unit.kind,ax x.unit.label,aW<|x.unit.head.map aQ,aW<|x.unit.words.map aQ,aW<|x.unit.kids.map aV,aW<|x.old.map m0,aW<|x.new.map m0,ax x.label,ax x.for_,iV x.start.kind,iV x.start.day,ax x.start.event,iV x.act,iV x.item,iV x.day,ax x.event,aW<|x.by_.map NA]] 0 0,nV a],[])) (fun a=>x.at_.all xh=a.all xh) (by rfl) (fun _ _ _ _ _ a _=>Kl 3 98 (ln az x.at_)<|Kh 0 a<|Mg 0<|uT az x.to [1,6] (fun a _=>([AV.pptr [aa [iV x.kind,aW<|x.at_.map az,aW<|x.to.map az,iV x.where_,iV x.nth_,iV x.unit.act,iV x.unit.item,iV x.unit.n,iV x.unit.kind,ax x.unit.label,aW<|x.unit.head.map aQ,aW<|x.unit.words.map aQ,aW<|x.unit.kids.map aV,aW<|x.old.map m0,aW<|x.new.map m0,ax x.label,ax x.for_,iV x.start.kind,iV x.start.day,ax x.start.event,iV x.act,iV x.item,iV x.day,ax x.event,aW<|x.by_.map NA]] 0 0,nV a],[])) (fun a=>x.to.all xh=a.all xh) (by rfl) (fun _ _ _ _ _ a _=>Kl 3 113 (ln az x.to)<|Kh 0 a<|Mg 0<|uT NA x.by_ [1,7] (fun a _=>([AV.pptr [aa [iV x.kind,aW<|x.at_.map az,aW<|x.to.map az,iV x.where_,iV x.nth_,iV x.unit.act,iV x.unit.item,iV x.unit.n,iV x.unit.kind,ax x.unit.label,aW<|x.unit.head.map aQ,aW<|x.unit.words.map aQ,aW<|x.unit.kids.map aV,aW<|x.old.map m0,aW<|x.new.map m0,ax x.label,ax x.for_,iV x.start.kind,iV x.start.day,ax x.start.event,iV x.act,iV x.item,iV x.day,ax x.event,aW<|x.by_.map NA]] 0 0,nV a],[])) (fun a=>x.by_.all Hw=a.all Hw) (by rfl) (fun _ _ _ _ _ a _=>Kl 3 128 (ln NA x.by_)<|Kh 0 a<|Ky 0<|rr0 true) fun a _ b _ c d e f g _ i _=>have i:=i.trans<|congrArg some<|eb c;Kl 3 128 (ln NA x.by_)<|Kt 0 g<|Kx 2 i<|Kl 2 138 (ln NA c.by_)<|Ka 1 0 (Int.ofNat c.by_.length) (fun g _=>Kt 0 g<|Kt 0 g<|Kt 0 g<|Mx i<|Mt g<|Kt 0 g<|Kt 0 g<|Mx ((aT NA (sA:0<(c.by_).length)).trans<|congrArg some<|eb _)<|Mt g<|Kt 0 g<|Kt 0 g<|Kl 0 150 (ln NA (gD c.by_ 0).by_)<|Mt g<|Ku 0 g<|Ka 0 0 (Int.ofNat (gD c.by_ 0).by_.length) (fun a _=>Mt a<|Mt a<|Mt a<|Mt a<|Mt a<|Mt a<|MV a<|Ky 1<|rr0 false) fun g _=>Kh 0 g<|Kh 0 g<|Kh 0 g<|Mx i<|Mh g<|Kh 0 g<|Mp (ih c (by exact bQ b f)<|by exact f7 _ (bQ b f))<|Mh g<|Kw 0 g<|Mn (mR c) (fun _=>Kf 0<|ch<|rr0 false) fun _=>Kl 1 131 (dc a)<|Kf 0<|e<|by simp_all[Hw,G8]) fun g _=>Mh g<|Mh g<|Mh g<|Mh g<|Mh g<|Mh g<|Mh g<|Mh g<|Mh g<|Mh g<|My g<|Kx 3 i<|Kp 0 (ih c (by exact bQ b f)<|by exact f7 _ (bQ b f))<|Kn 1 (mR c) (fun _=>Kf 0<|ch<|rr0 false) fun _=>Kl 1 131 (dc a)<|Kf 0<|e<|by simp_all[Hw,G8]) fun a _ _ _ b c d _ e _ f _=>Kl 3 113 (ln az x.to)<|Kt 0 e<|Kx 2 f<|Ka 3 100 (Int.ofNat<|List.length b.label) (fun _ _=>Ky 0<|rr0 false) fun _ _=>Kl 1 116 (dc a)<|Kf 0<|d<|by simp_all[xh]) fun a _ _ _ b c d _ e _ f _=>Kl 3 98 (ln az x.at_)<|Kt 0 e<|Kx 2 f<|Ka 3 100 (Int.ofNat<|List.length b.label) (fun _ _=>Ky 0<|rr0 false) fun _ _=>Kl 1 101 (dc a)<|Kf 0<|d<|by simp_all[xh]) fun a _ _ _ b c d _ e _ f _=>Kl 3 84 (ln m0 x.new)<|Kt 0 e<|Kx 2 f<|Ka 2 100 (Int.ofNat<|List.length b) (fun _ _=>Ky 0<|rr0 false) fun _ _=>Kl 1 87 (dc a)<|Kf 0<|d<|by simp_all[xi]) fun a _ _ _ b c d _ e _ f _=>Kl 3 70 (ln m0 x.old)<|Kt 0 e<|Kx 2 f<|Ka 2 100 (Int.ofNat<|List.length b) (fun _ _=>Ky 0<|rr0 false) fun _ _=>Kl 1 73 (dc a)<|Kf 0<|d<|by simp_all[xi]
noncomputable def AL(most n:Int)(a:PAct):Bool:=aC most (n+Int.ofNat a.items.length)||(aC 100 (Int.ofNat a.title.length)||(aC 60 (Int.ofNat a.start.event.length)||aj (a.items.all mR)))
noncomputable def mX(most:Int):List PAct→Int→Option Int
  |[],n=>some n
  |a::r,n=>match AL most n a with|true=>none|false=>mX most r (n+Int.ofNat a.items.length)
noncomputable def vD(g:PGaz):Bool:=aC 8 (Int.ofNat g.acts.length)||aC 60 (Int.ofNat g.prior.length)
noncomputable def ux(most:Int):List PGaz→Int→Bool
  |[],_=>true
  |g::r,n=>match vD g with|true=>false|false=>match mX most g.acts n with|none=>false|some m=>ux most r m
noncomputable def Nn(gs:List PGaz)(most:Int):Bool:=match aC 8 (Int.ofNat gs.length)with|true=>false|false=>ux most gs 0
theorem Uy(gs:List PGaz)(most:Int)(hf:oa gs)(m1:0≤most)(m2:most≤2^20):kP 25 [.ls (gs.map al),iV most] (.bool (Nn gs most)):=by
  obtain⟨f0,f1⟩:=hf
  have fa:∀g,g∈gs→∀a,a∈g.acts→a.items.length<2^60:=fun g hg a ha=>((f1 g hg).2 a ha).1
  have fb:∀g,g∈gs→g.acts.length<2^60:=fun g hg=>(f1 g hg).1
  have rr0 b' (h:(Nn gs most)=b':=by simp only[Nn,ux,vD,mX,AL,aS,aj,bS, *]):=h;exact bI Tryz.func25<|Kl 2 11 (ln al gs)<|Ka 0 8 (Int.ofNat gs.length) (fun _ _=>Ky 0<|rr0 false) fun _ _=>Mg 1<|OW al gs (0:Int) [0,1,5,6] (fun b _ c=>([aW<|gs.map al,iV most,iV c,nV b],[])) (fun b c=>(0:Int)≤c∧c≤most∧ux most gs (0:Int)=ux most b c) (by(refine⟨by omega,by omega,?_⟩;first|rfl|(simp only[ux,vD,mX,aS,aj,bS, *]))) (fun _ _ _ _ _ _ b _=>Kl 2 15 (ln al gs)<|Kh 0 b<|Ky 0<|rr0 true) fun b _ c d _ e f i j k _ l m=>Kl 2 15 (ln al gs)<|Kt 0 k<|Kx 1 l<|Kl 2 24 (ln ab e.acts)<|Ka 1 8 (Int.ofNat e.acts.length) (fun b _=>Mt b<|Mt b<|Mt b<|Mt b<|Mt b<|Mt b<|MV b<|Ky 1<|rr0 false) fun k _=>Kh 0 k<|Kh 0 k<|Mx l<|Mh k<|Kh 0 k<|Kh 0 k<|Kh 0 k<|Kw 0 k<|Mb (aC 60<|Int.ofNat<|List.length e.prior) (fun b=>have:=ap b;Ky 0<|rr0 false) fun k=>have:=aG k;Mg 0<|OW ab e.acts c [0,1,5,6,7] (fun c _ d=>([aW<|gs.map al,iV most,iV d,nV b,nV c],[])) (fun b d=>(0:Int)≤d∧d≤most∧mX most e.acts c=mX most b d) (by(exact⟨m.1,m.2.1,rfl⟩)) (fun _ _ c _ _ _ d _=>Kx 2 l<|Kl 2 41 (ln ab e.acts)<|Kh 0 d<|Kl 1 18 (dc b)<|Kf 0<|i c<|by(refine⟨by omega,by omega,?_⟩;first|rfl|(simp only[ux,vD,mX,aS,aj,bS, *]))) fun f _ i k _ m n o p q _ r _=>have:=fa e (bQ d j) m<|bQ k p;have:=fb e<|bQ d j;Kx 2 l<|Kl 2 41 (ln ab e.acts)<|Kt 0 q<|Kx 1 l<|Kx 2 r<|Kl 6 56 (ln NA m.items)<|Kl 0 57 (Le.wr (x:=i+Int.ofNat m.items.length) fc)<|Ka 4 most (i+Int.ofNat m.items.length) (fun b _=>Mt b<|Mt b<|Mt b<|MV b<|Ky 3<|rr0 false) fun l _=>Kh 0 l<|Kh 0 l<|Kh 0 l<|Kw 0 l<|Ka 0 100 (Int.ofNat<|List.length m.title) (fun b _=>Mt b<|Mt b<|Mt b<|Mt b<|MV b<|Ky 1<|rr0 false) fun l _=>Kh 0 l<|Kh 0 l<|Kh 0 l<|Kh 0 l<|Kw 0 l<|Mb (aC 60<|Int.ofNat<|List.length m.start.event) (fun b=>have:=ap b;Ky 0<|rr0 false) fun l=>have:=aG l;K1 0 (.frz 0 [0,1,5,6,7,8,9]) ti<|uT NA m.items [0,1,5,6,7,8,9] (fun c _=>([aW<|gs.map al,iV most,iV<|i+Int.ofNat m.items.length,nV b,nV f,AV.pptr [aa [iV m.number,ax m.title,iV m.day,iV m.start.kind,iV m.start.day,ax m.start.event,aW<|m.items.map NA]] 0 0,nV c],[])) (fun b=>m.items.all mR=b.all mR) (by rfl) (fun _ _ _ _ _ b _=>Kl 3 77 (ln NA m.items)<|Kh 0 b<|Kl 1 44 (dc f)<|Kf 0<|o (i+Int.ofNat m.items.length)<|by(refine⟨by(simp only[oN]at *;omega),by assumption,?_⟩;simp only[mX,AL,aS,aj,bS, *])) fun b _ c _ e f i l n _ o _=>have o:=o.trans<|congrArg some<|eb e;Kl 3 77 (ln NA m.items)<|Kt 0 n<|Kx 2 o<|Kp 0 (Uv e<|by first|exact((f1 _ (bQ d j)).2 _ (bQ k p)).2 _ (bQ c l))<|Kn 0 (mR e) (fun _=>Kf 0<|ch<|rr0 false) fun _=>Kl 1 80 (dc b)<|Kf 0<|i<|by simp only[aS,aj,bS, *]at *
noncomputable def GD(gs:List PGaz)(p:aO):Bool:=Nn gs 24&&aj (aC 60 (Int.ofNat p.length))
theorem Uw(gs:List PGaz)(p:aO)(hf:oa gs):kP 14 [.ls (gs.map al),.str p] (.bool (GD gs p)):=by
  have rr0 b' (h:(GD gs p)=b':=by simp only[GD,aS,aj,bS, *]):=h;exact bI Tryz.func14<|Kp 1 (Uy gs 24 hf oA oA)<|Kb 0 (Nn gs 24) (fun a=>Kt 0 a<|Kt 0 a<|Ku 0 a<|Kf 0<|ch<|rr0<|aj<|aC 60<|Int.ofNat<|List.length p) fun a=>Mh a<|Mh a<|My a<|Ky 0<|rr0 false
theorem ifB(l:aO)(g:Nat)(p:UInt8→Bool)(hp:∀s,s∈l→kP g [.int .u8 (.ofNat s.toNat)] (.bool (p s)))(hl:l.length<2^40):kP 284 [.ls (l.map nr),.func (.func g) [] []] (iV (dY p l 0)):=by
  have rr0 b' (h:(dY p l 0)=b':=by first|exact lV zd0 hr0 hj0 ‹_› |exact hj0):=h;exact bI Tryz.func284<|Kl 2 7 (ln nr l)<|Mg 0<|uT nr l [0,1,7,8] (fun a _=>([aW<|l.map nr,bY (bV g) [] [],nV<|List.length l,nV a],[])) (fun a=>dY p l (0:Nat)=dY p a (List.length l-a.length)) sA (fun _ _ zd0 _ hr0 a hj0=>Kh 0 a<|Kf 0<|li<|rr0 (-1)) fun a _ zd0 _ b c d hr0 e _ f hj0=>Kt 0 e<|Kx 4 f<|Kp 0 (hp b<|by exact bQ zd0 hr0)<|Mb (p b) (fun _=>Kf 1<|li<|rr0<|Int.ofNat a) fun _=>Kl 0 18 (dc a)<|Kf 0<|d<|by exact jf zd0 hr0 hj0 (by omega)
theorem cfB(l:aO)(g:Nat)(p:UInt8→Bool)(hp:∀s,s∈l→kP g [.int .u8 (.ofNat s.toNat)] (.bool (p s)))(hl:l.length<2^40):kP 272 [.ls (l.map nr),.func (.func g) [] []] (.bool (l.any p)):=by
  have h:=ifB l g p hp hl
  have rr0 b' (h:(List.any l p)=b':=by(rw[lf];simp only[aS,aj,bS,rL])):=h;exact bI Tryz.func272<|Kp 2 h<|Kf 1<|ch<|rr0<|aj<|aC (dY p l 0) 0
theorem Ow(c:UInt8):kP 271 [.int .u8 (.ofNat c.toNat)] (.bool (aj (Qm 33 126 c))):=by
  have rr0 b' (h:(aj (Qm 33 126 c))=b':=by(simp only[Qm,aS,aj,bS,rL, *])):=h;exact bI Tryz.func271<|Kb 3 (aC (Int.ofNat c.toNat) 33) (fun a=>Mt a<|MV a<|Ky 0<|rr0 true) fun a=>Kh 0 a<|Kw 0 a<|Kf 0<|ch<|rr0<|aC 126<|Int.ofNat c.toNat
theorem Sn(s:aO)(hs:s.length≤2^39):kP 244 [.str s] (.bool (rO s)):=by
  have h:=cfB s 271 _ (fun c _=>Ow c) (by omega)
  have rr0 b' (h:(rO s)=b':=by first|(simp only[rO,aS,aj,bS, *];done)|(rw[rO,Rx,List.all_eq_not_any_not];simp only[Dn,aS,aj,bS, *]at *)):=h;let q:=List.map nr s;exact bI Tryz.func244<|Kn 4 (eJ s (ByteArray.mk #[]).data.toList) (fun a=>Kt 0 (cS a)<|Kt 0 (cS a)<|Ku 0 (cS a)<|Kn 0 (aC 24<|Int.ofNat<|List.length s) (fun a=>Kt 0 (cS a)<|Mv (UC (s:=s) (H:=av []) (oA:(s).length≤2^40))<|Mt (cS a)<|Kt 0 (cS a)<|Mp (aM.onArgs (.cons (e9 q _<|aX Vl s)<|lc .nil) h:kP 272 [iR q false,bY (bV 271) [] []] _)<|Mt (cS a)<|Ku 0 (cS a)<|Kf 0<|ch<|rr0<|aj<|List.any s fun a=>aj<|Qm 33 126 a) fun a=>Mh (cD a)<|Mh (cD a)<|Mh (cD a)<|Mh (cD a)<|My (cD a)<|Ky 0<|rr0 false) fun a=>Mh (cD a)<|Mh (cD a)<|My (cD a)<|Ky 2<|rr0 false
theorem ifS(l:List aO)(g:Nat)(p:aO→Bool)(hp:∀s,s∈l→kP g [.str s] (.bool (p s)))(hl:l.length<2^40):kP 270 [.ls (l.map m0),.func (.func g) [] []] (iV (dY p l 0)):=by
  have rr0 b' (h:(dY p l 0)=b':=by first|exact lV zd0 hr0 hj0 ‹_› |exact hj0):=h;exact bI Tryz.func270<|Kl 2 7 (ln m0 l)<|Mg 0<|uT m0 l [0,1,7,8] (fun a _=>([aW<|l.map m0,bY (bV g) [] [],nV l.length,nV a],[])) (fun a=>dY p l (0:Nat)=dY p a (l.length-a.length)) sA (fun _ _ zd0 _ hr0 a hj0=>Kh 0 a<|Kf 0<|li<|rr0 (-1)) fun a _ zd0 _ b c d hr0 e _ f hj0=>Kt 0 e<|Kx 4 f<|Kp 0 (hp b<|by exact bQ zd0 hr0)<|Mb (p b) (fun _=>Kf 1<|li<|rr0<|Int.ofNat a) fun _=>Kl 0 18 (dc a)<|Kf 0<|d<|by exact jf zd0 hr0 hj0 (by omega)
theorem cfS(l:List aO)(g:Nat)(p:aO→Bool)(hp:∀s,s∈l→kP g [.str s] (.bool (p s)))(hl:l.length<2^40):kP 242 [.ls (l.map m0),.func (.func g) [] []] (.bool (l.any p)):=by
  have h:=ifS l g p hp hl
  have rr0 b' (h:(l.any p)=b':=by(rw[lf];simp only[aS,aj,bS,rL])):=h;exact bI Tryz.func242<|Kp 2 h<|Kf 1<|ch<|rr0<|aj<|aC (dY p l 0) 0
theorem LO(s:aO)(hs:s.length≤2^39):kP 243 [.str s] (.bool (aj (rO s))):=by
  exact bI Tryz.func243<|Kp 1 (Sn s hs)<|Kf 1<|bd<|eC<|aj<|rO s
theorem KZ(l:List aO)(hl:l.length<2^40)(hs:∀s,s∈l→s.length≤2^39):kP 216 [.ls (l.map m0)] (.bool (qa l)):=by
  have h:=cfS l 243 _ (fun s m=>LO s (hs s m)) hl
  have rr0 b' (h:(qa l)=b':=by first|(simp only[qa,aS,aj,bS, *];done)|(rw[qa,List.all_eq_not_any_not];simp only[aS,aj,bS, *])):=h;exact bI Tryz.func216<|Kl 2 4 (ln m0 l)<|Kn 1 (aC 256<|Int.ofNat l.length) (fun a=>Kt 0 (cS a)<|Mp h<|Mt (cS a)<|Ku 0 (cS a)<|Kf 0<|ch<|rr0<|aj<|l.any fun a=>aj<|rO a) fun a=>Mh (cD a)<|Mh (cD a)<|My (cD a)<|Ky 0<|rr0 false
theorem Pg(r:Int):kP 246 [.int .i32 r] (.bool (aC r 48||aC 57 r)):=by
  have rr0 b' (h:(aC r 48||aC 57 r)=b':=by(simp only[aS,aj,bS, *])):=h;exact bI Tryz.func246<|Kb 3 (aC r 48) (fun a=>Mt a<|MV a<|Ky 0<|rr0 true) fun a=>Kh 0 a<|Kw 0 a<|Kf 0<|ch<|rr0<|aC 57 r
theorem Tw(r:Int):kP 218 [.int .i32 r] (.bool (aC r 65||aC 90 r)):=by
  have rr0 b' (h:(aC r 65||aC 90 r)=b':=by(simp only[aS,aj,bS, *])):=h;exact bI Tryz.func218<|Kb 3 (aC r 65) (fun a=>Mt a<|MV a<|Ky 0<|rr0 true) fun a=>Kh 0 a<|Kw 0 a<|Kf 0<|ch<|rr0<|aC 90 r
theorem Ho(s:PStep):kP 186 [az s] (.bool (ah s.kind 0&&eJ s.label [])):=by
  have rr0 b' (h:(ah s.kind 0&&eJ s.label [])=b':=by(simp only[aS,aj,bS, *];first|done|rfl)):=h;exact bI Tryz.func186<|Kb 5 (ah s.kind 0) (fun a=>Kt 0 a<|Kt 0 a<|Ku 0 a<|Kf 0<|ch<|rr0<|eJ s.label (ByteArray.mk #[]).data.toList) fun a=>Mh a<|Mh a<|My a<|Ky 0<|rr0 false
theorem vZ(n a b:Int):kP 182 [iV n,iV a,iV b] (.bool (aj (aC n a)&&aj (aC b n))):=by
  have rr0 b' (h:(aj (aC n a)&&aj (aC b n))=b':=by(simp only[aS,aj,bS, *])):=h;exact bI Tryz.func182<|Kn 4 (aC n a) (fun c=>Kt 0 (cS c)<|Kt 0 (cS c)<|Ku 0 (cS c)<|Kf 0<|ch<|rr0<|aj<|aC b n) fun c=>Mh (cD c)<|Mh (cD c)<|My (cD c)<|Ky 0<|rr0 false
theorem Qs(s:aO):kP 245 [.str s,.func (.func 246) [] []] (iV (bif Nat.beq (ee kc s) s.length then -1 else Int.ofNat (ee kc s))):=
  zG iJ (Go.Proofs.enters_of Go.Proofs.Tryz.lidxf.f15 (by kernel_rfl) rfl) (Go.Proofs.enters_of Tryz.func246 (by kernel_rfl) rfl)
    (fun s w hp=>Go.Proofs.Any.strings_IndexFunc_grows Go.Proofs.Tryz.lidxf 246 #[] (Go.Proofs.enters_of Tryz.func246 (by kernel_rfl) rfl) _ s w hp) Pg (fun _=>rfl) (HY (lo:=48) (hi:=57) (by omega)) s
theorem Qt(s:aO)(h:By (Nat.beq (ee kc s) s.length) true):kP 245 [.str s,.func (.func 246) [] []] (iV (-1)):=by
  have:=Qs s
  simp_all
theorem T2(s:aO)(h:By (Nat.beq (ee kc s) s.length) false):kP 245 [.str s,.func (.func 246) [] []] (nV (ee kc s)):=by
  have:=Qs s
  grind
theorem ZL(s:aO):kP 219 [.str s,.func (.func 218) [] []] (.bool (aj (s.all XV))):=
  uC iJ (Go.Proofs.enters_of Go.Proofs.Tryz.lconf.f17 (by kernel_rfl) rfl) (Go.Proofs.enters_of Tryz.func218 (by kernel_rfl) rfl)
    (fun s w hp=>Go.Proofs.Any.strings_ContainsFunc_grows Go.Proofs.Tryz.lconf 218 #[] (Go.Proofs.enters_of Tryz.func218 (by kernel_rfl) rfl) _ s w hp) Tw (fun _=>rfl) (HY (lo:=65) (hi:=90) (by omega)) s
theorem MD(s:aO)(hs:s.length≤2^39):kP 217 [.str s] (.tuple [.str (s.take (ee kc s)),.str (s.drop (ee kc s))]):=by
  have hl:=J6 (p:=kc) (s:=s)
  have rr0 b' (h:(s.take (ee kc s))=b':=by(rw[pp h0];simp)):=h;have rr1 b' (h:(s.drop (ee kc s))=b':=by(rw[pp h0];simp)):=h;let q:=AHeap.mk 1000000 Tr.nil;exact bI Tryz.func217<|Ks 2 ((ee kc s).beq<|List.length s) (fun h0=>Mp (Qt s h0)<|Kf 6<|ct<|.cons (Le.str<|rr0 s)<|.cons (Le.str<|rr1 []) .nil) fun h0=>Mp (T2 s h0)<|Kv 5 (VS (s:=s) (n:=ee kc s) (k:=IntKind.i64) (H:=q) oA)<|Kv 1 (VR (s:=s) (l:=ee kc s) (k:=IntKind.i64) (H:=q) oA)<|Kf 1<|bd<|bP [ax<|s.take<|ee kc s,ax<|s.drop<|ee kc s]
theorem uX(s:aO)(hs:s.length≤2^39):kP 177 [.str s] (.bool (kq s)):=by
  have hd:(s.drop (ee kc s)).length≤2^39:=by grind
  have rr0 b' (h:(kq s)=b':=by first|(simp only[kq,aS,aj,bS,rL, *];done)|(simp only[kq,aS,aj,bS,rL, *];rfl)|(unfold kq;simp only[h0,h1,h2];rfl)):=h;exact bI Tryz.func177<|Kp 1 (MD s hs)<|Kd 9 (Int.ofNat (s.take<|ee kc s).length) 1 (fun h0 _=>Kt 0 (cS h0)<|Kt 0 (cS h0)<|Ku 0 (cS h0)<|Kd 0 4 (Int.ofNat (s.take<|ee kc s).length) (fun h1 _=>Kt 0 (cS h1)<|M1 (.chr<|gD (s.take<|ee kc s) 0) (zY (gR:0<(s.take (ee kc s)).length))<|Mt (cS h1)<|Ku 0 (cS h1)<|Kc 0 (Int.ofNat (gD (s.take<|ee kc s) 0).toNat) 48 (fun h2 _=>Kt 0 (cS h2)<|Kt 0 (cS h2)<|Ku 0 (cS h2)<|Kd 0 3 (Int.ofNat (s.drop<|ee kc s).length) (fun a _=>Kt 0 (cS a)<|Kt 0 (cS a)<|Mp (ZL<|s.drop<|ee kc s)<|Mt (cS a)<|Ku 0 (cS a)<|Kf 0<|ch<|rr0<|aj<|aj<|(s.drop<|ee kc s).all XV) fun a _=>Mh (cD a)<|Mh (cD a)<|Mh (cD a)<|My (cD a)<|Ky 0<|rr0 false) fun h2 _=>Mh (cD h2)<|Mh (cD h2)<|My (cD h2)<|Ky 2<|rr0 false) fun h1 _=>Mh (cD h1)<|Mh (cD h1)<|My (cD h1)<|Ky 4<|rr0 false) fun h0 _=>Mh (cD h0)<|Mh (cD h0)<|My (cD h0)<|Ky 6<|rr0 false
theorem uR(p:List PStep)(hl:p.length<2^40)(hs:∀s,s∈p→s.label.length≤2^39):kP 132 [.ls (p.map az)] (.bool (kB p)):=by
  have rr0 b' (h:(kB p)=b':=by first|(rw[kB,hj0,U5];rfl)|(rw[kB,Ew zd0 hr0 hj0];simp only[nQ,tz,‹ah (Int.ofNat zi0) 0=_›,cond_true,cond_false];simp only[Dn,aS,aj,bS, *];first|done|rfl)):=h;exact bI Tryz.func132<|Kl 2 6 (ln az p)<|Mg 0<|uT az p [0,5,6,7] (fun a _=>([aW<|p.map az,aW<|p.map az,nV p.length,nV a],[])) (fun a=>N4 p=Hn p a) (by(exact N3)) (fun zi0 _ zd0 _ hr0 a hj0=>Kh 0 a<|Kl 1 34 (ln az p)<|Kf 1<|ch<|rr0<|aj<|aC 9<|Int.ofNat p.length) fun zi0 _ zd0 _ a b c hr0 d _ e hj0=>Kt 0 d<|Kx 0 e<|Kj 6 (Int.ofNat zi0) 0 (fun d _=>Kt 0 d<|Mp (Ho a)<|MV d<|Mb (ah a.kind 0&&eJ a.label []) (fun _=>Kl 0 32 (dc zi0)<|K1 0 (.frz 0 [0,5,6,7]) ti<|Mf<|c<|by(rw[Ew zd0 hr0 hj0];simp only[nQ,tz,‹ah (Int.ofNat zi0) 0=_›,cond_true,cond_false];simp only[Dn,aS,aj,bS, *];first|done|rfl)) fun _=>Kd 3 0 a.kind (fun a _=>Mt (cS a)<|Mt (cS a)<|MV (cS a)<|Ky 3<|rr0 false) fun d _=>Kh 0 (cD d)<|Kh 0 (cD d)<|Kw 0 (cD d)<|Ka 0 7 a.kind (fun a _=>Mt a<|Mt a<|Mt a<|MV a<|Ky 1<|rr0 false) fun d _=>Kh 0 d<|Kh 0 d<|Mp (uX a.label<|by exact hs _ (bQ zd0 hr0))<|Mh d<|Kw 0 d<|Mn (kq a.label) (fun _=>Kf 0<|ch<|rr0 false) fun _=>Kl 0 32 (dc zi0)<|K1 0 (.frz 0 [0,5,6,7]) ti<|Mf<|c<|by(rw[Ew zd0 hr0 hj0];simp only[nQ,tz,‹ah (Int.ofNat zi0) 0=_›,cond_true,cond_false];simp only[Dn,aS,aj,bS, *];first|done|rfl)) fun d _=>Mh d<|My d<|Kd 4 0 a.kind (fun a _=>Mt (cS a)<|Mt (cS a)<|MV (cS a)<|Ky 3<|rr0 false) fun d _=>Kh 0 (cD d)<|Kh 0 (cD d)<|Kw 0 (cD d)<|Ka 0 7 a.kind (fun a _=>Mt a<|Mt a<|Mt a<|MV a<|Ky 1<|rr0 false) fun d _=>Kh 0 d<|Kh 0 d<|Mp (uX a.label<|by exact hs _ (bQ zd0 hr0))<|Mh d<|Kw 0 d<|Mn (kq a.label) (fun _=>Kf 0<|ch<|rr0 false) fun _=>Kl 0 32 (dc zi0)<|K1 0 (.frz 0 [0,5,6,7]) ti<|Mf<|c<|by(rw[Ew zd0 hr0 hj0];simp only[nQ,tz,‹ah (Int.ofNat zi0) 0=_›,cond_true,cond_false];simp only[Dn,aS,aj,bS, *];first|done|rfl)
theorem T1(l:List Int)(v:Int)(hl:l.length<2^40):kP 259 [.ls (l.map ak),iV v] (iV (dY (ah v) l 0)):=by
  have rr0 b' (h:(dY (ah v) l 0)=b':=by first|exact lV zd0 hr0 hj0 ‹_› |exact hj0):=h;exact bI Tryz.func259<|Kl 2 7 (ln ak l)<|Mg 0<|uT ak l [0,1,7,8] (fun a _=>([aW<|l.map ak,iV v,nV l.length,nV a],[])) (fun a=>dY (ah v) l (0:Nat)=dY (ah v) a (l.length-a.length)) sA (fun _ _ zd0 _ hr0 a hj0=>Kh 0 a<|Kf 0<|li<|rr0 (-1)) fun a _ zd0 _ b c d hr0 e _ f hj0=>Kt 0 e<|Kx 4 f<|Kj 1 v b (fun _ _=>Kf 1<|li<|rr0<|Int.ofNat a) fun _ _=>Kl 0 18 (dc a)<|Kf 0<|d<|by exact jf zd0 hr0 hj0 (by omega)
theorem ri(l:List Int)(v:Int)(hl:l.length<2^40):kP 232 [.ls (l.map ak),iV v] (.bool (l.any (ah v))):=by
  have h:=T1 l v hl
  have rr0 b' (h:(l.any (ah v))=b':=by(rw[lf];simp only[aS,aj,bS,rL])):=h;exact bI Tryz.func232<|Kp 2 h<|Kf 1<|ch<|rr0<|aj<|aC (dY (ah v) l 0) 0
theorem Qr(v:Int):kP 259 [.nils,iV v] (iV (-1)):=by
  let q:=[ay,iV v,iV 0,iV 0];exact bI Tryz.func259<|Mg 3<|ZK [0,1,7,8] (q,[]) True 0 ti fun _ _=>Kf 2<|bd<|iV (-1)
theorem HW(v:Int):kP 232 [.nils,iV v] (.bool false):=by
  have h:=Qr v
  exact bI Tryz.func232<|Kp 2 h<|Kf 1<|bd<|eC false
theorem kn0:kP 279 [iV 0] (.str (dW 0)):=by
  exact wk Tryz.func279 (.go 11 .fin)<|bd<|ax [98,111,111,107]
theorem kn1:kP 279 [iV 1] (.str (dW 1)):=by
  exact wk Tryz.func279 (.go 11 .fin)<|bd<|ax [112,97,114,116]
theorem kn2:kP 279 [iV 2] (.str (dW 2)):=by
  exact wk Tryz.func279 (.go 11 .fin)<|bd<|ax [115,101,99,116,105,111,110]
theorem kn3:kP 279 [iV 3] (.str (dW 3)):=by
  exact wk Tryz.func279 (.go 11 .fin)<|bd<|ax [112,97,114,97,103,114,97,112,104]
theorem kn4:kP 279 [iV 4] (.str (dW 4)):=by
  exact wk Tryz.func279 (.go 11 .fin)<|bd<|ax [116,97,98,108,101]
theorem kn5:kP 279 [iV 5] (.str (dW 5)):=by
  exact wk Tryz.func279 (.go 11 .fin)<|bd<|ax [114,111,119]
theorem kn6:kP 279 [iV 6] (.str (dW 6)):=by
  exact wk Tryz.func279 (.go 11 .fin)<|bd<|ax [99,101,108,108]
theorem kn7:kP 279 [iV 7] (.str (dW 7)):=by
  exact wk Tryz.func279 (.go 11 .fin)<|bd<|ax [110,111,116,101]
theorem knX(k:Int)(h:k<0∨7<k):kP 279 [iV k] (.str (dW k)):=by
  rw[Iu h]
  have c:aC k 0=true∨(aC k 0=false∧aC k 8=false):=by
    grind[ko,lk]
  rcases c with c|⟨c,d⟩
  · exact bI Tryz.func279<|Kt 3 c<|Mt c<|MV c<|Kf 1<|bd<|ax []
  · exact bI Tryz.func279<|Kh 3 c<|Kh 0 c<|Kw 0 c<|Mt (cS d)<|Kf 0<|bd<|ax []
theorem wL(k:Int):kP 279 [iV k] (.str (dW k)):=by
  by_cases h:k<0∨7<k
  · grind[knX]
  · grind[kn0,kn1,kn2,kn3,kn4,kn5,kn6,kn7]
theorem ccX(p k:Int)(h:p<0∨7<p):kP 198 [iV p,iV k] (.bool (jz p k)):=by
  unfold jz
  rw[HP h]
  have c:aC p 0=true∨(aC p 0=false∧aC p 8=false):=by
    grind[ko,lk]
  rcases c with c|⟨c,d⟩
  · exact bI Tryz.func198<|Kh 3 (cD c)<|Mh (cD c)<|My (cD c)<|Kf 2<|bd<|eC false
  · exact bI Tryz.func198<|Kt 3 (cS c)<|Kt 0 (cS c)<|Ku 0 (cS c)<|Kh 0 d<|Mh d<|Mh d<|Mh d<|Mh d<|My d<|Kf 0<|bd<|eC false
theorem cc0(k:Int):kP 198 [iV 0,iV k] (.bool (jz 0 k)):=by
  have h:=ri [1,2] k (by grind)
  let q:=[iV 1,iV 2];exact bI Tryz.func198<|Kp 11 (aM.onArgs (.cons (e9 q _<|by rfl)<|lc .nil) h:kP 232 [iR q false,iV k] _)<|Kf 1<|bd<|eC<|[1,2].any<|ah k
theorem cc1(k:Int):kP 198 [iV 1,iV k] (.bool (jz 1 k)):=by
  have h:=ri [2] k (by grind)
  let q:=[iV 2];exact bI Tryz.func198<|Kp 11 (aM.onArgs (.cons (e9 q _<|by rfl)<|lc .nil) h:kP 232 [iR q false,iV k] _)<|Kf 1<|bd<|eC<|[2].any<|ah k
theorem cc2(k:Int):kP 198 [iV 2,iV k] (.bool (jz 2 k)):=by
  have h:=ri [3,4,7] k (by grind)
  let q:=[iV 3,iV 4,iV 7];exact bI Tryz.func198<|Kp 11 (aM.onArgs (.cons (e9 q _<|by rfl)<|lc .nil) h:kP 232 [iR q false,iV k] _)<|Kf 1<|bd<|eC<|[3,4,7].any<|ah k
theorem cc3(k:Int):kP 198 [iV 3,iV k] (.bool (jz 3 k)):=by
  have h:=ri [3,4,7] k (by grind)
  let q:=[iV 3,iV 4,iV 7];exact bI Tryz.func198<|Kp 11 (aM.onArgs (.cons (e9 q _<|by rfl)<|lc .nil) h:kP 232 [iR q false,iV k] _)<|Kf 1<|bd<|eC<|[3,4,7].any<|ah k
theorem cc4(k:Int):kP 198 [iV 4,iV k] (.bool (jz 4 k)):=by
  have h:=ri [5] k (by grind)
  let q:=[iV 5];exact bI Tryz.func198<|Kp 11 (aM.onArgs (.cons (e9 q _<|by rfl)<|lc .nil) h:kP 232 [iR q false,iV k] _)<|Kf 1<|bd<|eC<|[5].any<|ah k
theorem cc5(k:Int):kP 198 [iV 5,iV k] (.bool (jz 5 k)):=by
  have h:=ri [6] k (by grind)
  let q:=[iV 6];exact bI Tryz.func198<|Kp 11 (aM.onArgs (.cons (e9 q _<|by rfl)<|lc .nil) h:kP 232 [iR q false,iV k] _)<|Kf 1<|bd<|eC<|[6].any<|ah k
theorem cc6(k:Int):kP 198 [iV 6,iV k] (.bool (jz 6 k)):=by
  have h:=HW k
  exact bI Tryz.func198<|Kp 11 h<|Kf 1<|bd<|eC false
theorem cc7(k:Int):kP 198 [iV 7,iV k] (.bool (jz 7 k)):=by
  have h:=HW k
  exact bI Tryz.func198<|Kp 11 h<|Kf 1<|bd<|eC false
theorem zk(p k:Int):kP 198 [iV p,iV k] (.bool (jz p k)):=by
  by_cases h:p<0∨7<p
  · grind[ccX]
  · grind[cc0,cc1,cc2,cc3,cc4,cc5,cc6,cc7]
theorem aL{n b m:Nat}(h1:n≤m)(h2:m≤2^40)(h3:m*b≤2^40):small n b=true:=by
  unfold small
  have h4:n*b≤m*b:=eu b h1
  grind[Nat.ble_eq_true_of_le]
noncomputable abbrev wa(u:TUnit):AObj:=.row 8 false 0 [eU u]
noncomputable abbrev iQ(p:PId):AObj:=.row 3 false 0 [aK p]
def HI(p:PId)(u:TUnit)(x0:Nat×List TUnit×Unit):Prop:=(u.kids).drop x0.1=x0.2.1∧cb p u.kids=cb p x0.2.1
noncomputable def yb(p:PId)(u:TUnit)(x0:Nat×List TUnit×Unit):List AV×List AObj:=([AV.ptr 0 0 0 0,AV.ptr 1 0 0 0,AV.ls (u.kids.map aV),nV u.kids.length,nV x0.1],[AObj.row 8 false 0 [AV.agg [iV u.act,iV u.item,iV u.n,iV u.kind,AV.str u.label,AV.ls (u.head.map aQ),AV.ls (u.words.map aQ),AV.ls (u.kids.map aV)]],AObj.row 3 false 0 [AV.agg [iV p.a,iV p.i,iV p.n]]])
theorem EI(p:PId):∀(u:TUnit),nU u≤2^20→(bA p u=false→kP 28 [eU u,aK p] .nils)∧(bA p u=true→kP 28 [eU u,aK p] (.ps ((aE p u).map aV) false)):=by
  refine TUnit.ind fun u ih hn=>?_
  have ihn:∀k,k∈u.kids→By (bA p k) false→kP 28 [eU k,aK p] .nils:=fun k hk h=>(ih k hk (bR (tZ (iE hk)) hn)).1 h
  have ihy:∀k,k∈u.kids→By (bA p k) true→kP 28 [eU k,aK p] (.ps ((aE p k).map aV) false):=fun k hk h=>(ih k hk (bR (tZ (iE hk)) hn)).2 h
  have hkl:=bg u
  refine⟨fun hs=>?_,fun hs=>?_⟩
  · let q:=[aa [iV u.act,iV u.item,iV u.n,iV u.kind,ax u.label,aW (u.head.map aQ),aW (u.words.map aQ),aW (u.kids.map aV)]];let q3:=[iV p.a,iV p.i,iV p.n];exact bI Tryz.func28<|Kv 5 (kR ((Tryz.prog).underlying 24) u.act u.item u.n p.a p.i p.n<|av [aZ 8 false 0 q,aZ 3 false 0 [aa q3]])<|Mb (ah u.act p.a&&(ah u.item p.i&&ah u.n p.n)) (fun _=>Kf 2<|fk (by exact absurd (hs.symm.trans (DC ‹_›)) (by grind):(AV.nils)=(AV.ps q true))) fun _=>Kl 2 16 (ln aV u.kids)<|Mg 0<|VX (0:Nat) u.kids () [2,3,15,16,17] (fun a _ _=>([bz 0 0 0 0,bz 1 0 0 0,aW<|u.kids.map aV,nV u.kids.length,nV a],[aZ 8 false 0 [aa [iV u.act,iV u.item,iV u.n,iV u.kind,ax u.label,aW<|u.head.map aQ,aW<|u.words.map aQ,aW<|u.kids.map aV]],aZ 3 false 0 [aa [iV p.a,iV p.i,iV p.n]]])) (fun a b _=>(u.kids).drop a=b∧cb p u.kids=cb p b) (fun _ a _=>a.length) (et rfl<|by rfl) fun a b c d e=>Mc b (fun a=>have b:=fY d.1 a;have:=gL (J:=fun a _=>cb p u.kids=cb p a) (a:=c) a d.2;Kh 0 b<|Kf 0<|bd ay) fun b f g=>let i:=List.map aV<|[u]++aE p b;have j:=fm d.1 g;have:=ap j;have l:=(fV (enc:=aV) d.1 g).trans<|congrArg some<|aR b;have c:=ca (J:=fun a _=>cb p u.kids=cb p a) (a:=c) g d.2;have:nU b<nU u:=iE<|bQ d.1 g;have:(aE p b).length≤nU b:=mK b;Kt 0 j<|Mx l<|Ks 4 (bA p b) (fun a=>Mp (ihy b (by exact bQ d.1 g) a)<|Mg 6<|M2 .apl (et (by simp_all[lY]:List.map aV (aE p b)≠[])<|gn (sz:=8) (f:=aV) (fun _=>by(rw[aR];rfl))<|aE p b) (et (by(refine aL (m:=2^21) ?_ ?_ ?_<;>(try simp only[lM,lC,lN])<;>(have:=mK (p:=p) b;omega)):small (([AV.agg [iV u.act,iV u.item,iV u.n,iV u.kind,AV.str u.label,AV.ls (u.head.map aQ),AV.ls (u.words.map aQ),AV.ls (u.kids.map aV)]]).length+((aE p b).map aV).length) 120=true) rt)<|M1 (.obj 3<|aZ 8 true 0 i) (congrArg (aZ 8 true 0) (by(simp only[po,eD,wZ,aR,eb]<;>rfl):[AV.agg [iV u.act,iV u.item,iV u.n,iV u.kind,AV.str u.label,AV.ls (u.head.map aQ),AV.ls (u.words.map aQ),AV.ls (u.kids.map aV)]]++List.map aV (aE p b)=List.map aV ([u]++aE p b)))<|Mg 0<|M2 (.fsl 0 [] 4 i) ti (bT (aY 0) (tA aV ([u]++aE p b) (q++List.map aV (aE p b)).length (sA:([u]++aE p b).length=([AV.agg [iV u.act,iV u.item,iV u.n,iV u.kind,AV.str u.label,AV.ls (u.head.map aQ),AV.ls (u.words.map aQ),AV.ls (u.kids.map aV)]]++List.map aV (aE p b)).length))<|aX iK<|[u]++aE p b)<|Ml 4 (e9 i false<|aX iK<|[u]++aE p b)<|Mf<|fk (by exact absurd (hs.symm.trans (T7 (by assumption) c (by omega))) (by grind):(AV.nils)=(AV.ls i))) fun c=>Mp (ihn b (by exact bQ d.1 g) c)<|Kl 4 30 (dc a)<|K1 0 (.frz 2 [2,3,15,16,17]) (bT rt rt ti)<|Mf<|e (a+1) f () (et (bW d.1 g)<|by grind[iS])<|du g
  · have rr0:∀b',(h:((aE p u).map aV)=b':=by first|rfl|exact absurd (hs.symm.trans (Gj (by assumption) hj0)) (by decide)|(rw[oI (by assumption),eD,aR];rfl)|(rw[Ju (by assumption) hj0 (by assumption)];rfl))→((aE p u).map aV)=b':=(fun _ h=>h);let q:=[aa [iV u.act,iV u.item,iV u.n,iV u.kind,ax u.label,aW (u.head.map aQ),aW (u.words.map aQ),aW (u.kids.map aV)]];let q3:=[iV p.a,iV p.i,iV p.n];exact bI (hv:=(aX iK (aE p u))) Tryz.func28 (Kv 5 (Ek (d:=(Tryz.prog).underlying 24) (n:=3) (l:=(0,1)::(1,1)::(2,1)::[]) (xs:=[iV u.act,iV u.item,iV u.n]) (ys:=q3) (H:=av [aZ 8 false 0 q,aZ 3 false 0 [aa q3]]) rfl (pD (e:=ah u.act p.a) rfl rfl rfl (pD (e:=ah u.item p.i) rfl rfl rfl (Ct (e:=ah u.n p.n) rfl rfl rfl rfl)))) (Mb (ah u.act p.a&&(ah u.item p.i&&ah u.n p.n)) (fun h0=>Kf 2 ((Sd (rr0 q)):Le _ (iR q true))) (fun h0=>Kl 2 16 (Le.len (f:=aV) (l:=u.kids)) (Mg 0 (ML (Nat×List TUnit×Unit) [2,3,15,16,17] (yb p u) (HI p u) (fun x=>x.2.1.length) (0,u.kids,()) (aY ((yb p u) (0,u.kids,()))) (et (rfl:List.drop 0 (u.kids)=u.kids) (by rfl:(cb p u.kids=cb p u.kids))) (fun x0 hx0 nx0=>Mc x0.2.1 (fun hr0=>have lt0:=fY hx0.1 hr0;have hj0:=gL (J:=fun r x=>cb p u.kids=cb p r) (a:=x0.2.2) hr0 hx0.2;(Kh 0 lt0 (Kf 0 (fk (by exact absurd (hs.symm.trans (Gj (by assumption) hj0)) (by grind):(AV.ps ((aE p u).map aV) false)=(AV.nils)))))) (fun w0 r0 hr0=>let q2:=List.map aV ([u]++aE p w0);have lt0:=fm hx0.1 hr0;have glt0:=ap lt0;have nt0:=(fV (enc:=aV) hx0.1 hr0).trans (congrArg some (aR w0));have hj0:=ca (J:=fun r x=>cb p u.kids=cb p r) (a:=x0.2.2) hr0 hx0.2;have q0:nU w0<nU u:=iE (bQ hx0.1 hr0);have q1:(aE p w0).length≤nU w0:=mK w0;(Kt 0 lt0 (Mx nt0 (Ks 4 (bA p w0) (fun h2=>Mp (ihy w0 (by exact bQ hx0.1 hr0) h2) (Mg 6 (M2 .apl (et (by simp_all[lY]:List.map aV (aE p w0)≠[]) (gn (sz:=8) (f:=aV) (fun _=>by(rw[aR];rfl)) (aE p w0))) (et (by(refine aL (m:=2^21) ?_ ?_ ?_<;>(try simp only[lM,lC,lN])<;>(have:=mK (p:=p) w0;omega)):small (([AV.agg [iV u.act,iV u.item,iV u.n,iV u.kind,AV.str u.label,AV.ls (u.head.map aQ),AV.ls (u.words.map aQ),AV.ls (u.kids.map aV)]]).length+((aE p w0).map aV).length) 120=true) rt) (M1 (.obj 3 (aZ 8 true 0 q2)) (congrArg (aZ 8 true 0) (by(simp only[po,eD,wZ,aR,eb]<;>rfl):[AV.agg [iV u.act,iV u.item,iV u.n,iV u.kind,AV.str u.label,AV.ls (u.head.map aQ),AV.ls (u.words.map aQ),AV.ls (u.kids.map aV)]]++List.map aV (aE p w0)=List.map aV ([u]++aE p w0))) (Mg 0 (M2 (.fsl 0 [] 4 q2) ti (bT (aY (0)) (JL (f:=aV) (l:=[u]++aE p w0) (n:=(q++List.map aV (aE p w0)).length) (by simp_all:([u]++aE p w0).length=([AV.agg [iV u.act,iV u.item,iV u.n,iV u.kind,AV.str u.label,AV.ls (u.head.map aQ),AV.ls (u.words.map aQ),AV.ls (u.kids.map aV)]]++List.map aV (aE p w0)).length)) (aX iK ([u]++aE p w0))) (Mf ((Sd (rr0 q2)):Le _ (iR q2 false))))))))) (fun h2=>Mp (ihn w0 (by exact bQ hx0.1 hr0) h2) (Kl 4 30 (Le.wr (x:=Int.ofNat x0.1+1) fc) (K1 0 (.frz 2 [2,3,15,16,17]) (bT rt rt ti) (Mf (nx0 (x0.1+1,r0,()) (et (bW hx0.1 hr0) (by grind[iS]:(cb p u.kids=cb p r0))) (du hr0))))))))))))))))
theorem JA(p:PId)(u:TUnit)(h:By (bA p u) false)(hn:nU u≤2^20):kP 28 [eU u,aK p] .nils:=(EI p u hn).1 h
theorem EH(p:PId)(u:TUnit)(h:By (bA p u) true)(hn:nU u≤2^20):kP 28 [eU u,aK p] (.ps ((aE p u).map aV) false):=(EI p u hn).2 h
theorem Ru:kP 49 [.nils] .nils:=by
  exact wk Tryz.func49 (.go 4 .fin)<|bd ay
theorem Rs:kP 49 [.ps [] false] (.ps [] true):=by
  exact wk Tryz.func49 (.go 7 .fin)<|bd<|iR [] true
theorem RA(w:PWord)(r:List PWord)(hl:r.length<2^30):kP 49 [.ls ((w::r).map aQ)] (.ls ((w::r).map aQ)):=by
  let q:=List.map aQ (w::r);exact bI Tryz.func49<|Mg 1<|Mz 3 (fun(a:((w::r).map aQ:List AV)=[])=>Mw .abs<|mW _ _ a)<|Mg 3<|M2 .apl (et (sA:List.map aQ (w::r)≠[])<|fM 4 aQ (w::r) fun _=>rfl) (by(refine aL (m:=2^31) ?_ ?_ ?_<;>first|omega|grind):small ((w::r).map aQ).length 40=true)<|Mg 0<|M2 (.fsl 0 [] 2 q) ti (bT (aY 0) (tA aQ (w::r) q.length (sA:(w::r).length=((w::r).map aQ).length))<|aX iG<|w::r)<|Ml 2 (e9 q false<|aX iG<|w::r)<|Mf<|bd<|aW q
theorem MH(p:PId)(u:TUnit)(h:By (bA p u) false)(hn:nU u≤2^20):kP 31 [eU u,.pptr [aK p] 0 0] (.bool false):=by
  have h':bA p u=false:=h
  exact bI Tryz.func31<|Kp 3 (JA p u h hn)<|Kf 1<|bd<|eC false
theorem MG(p:PId)(u:TUnit)(h:By (bA p u) true)(hn:nU u≤2^20):kP 31 [eU u,.pptr [aK p] 0 0] (.bool true):=by
  have h':bA p u=true:=h
  exact bI Tryz.func31<|Kp 3 (EH p u h hn)<|Kf 1<|bd<|eC true
theorem aau(l:List TUnit)(g:Nat)(q:TUnit→Bool)(hp:∀k,k∈l→kP g [eU k] (.bool (q k)))(hl:l.length<2^40):kP 30 [.ls (l.map aV),.func (.func g) [] []] (iV (dY q l 0)):=by
  have rr0 b' (h:(dY q l 0)=b':=by first|exact lV zd0 hr0 hj0 ‹_› |exact hj0):=h;exact bI Tryz.func30<|Kl 2 7 (ln aV l)<|Mg 0<|uT aV l [0,1,7,8] (fun a _=>([aW<|l.map aV,bY (bV g) [] [],nV l.length,nV a],[])) (fun a=>dY q l (0:Nat)=dY q a (l.length-a.length)) sA (fun _ _ zd0 _ hr0 a hj0=>Kh 0 a<|Kf 0<|li<|rr0 (-1)) fun a _ zd0 _ b c d hr0 e _ f hj0=>have f:=f.trans<|congrArg some<|aR b;Kt 0 e<|Kx 4 f<|Kp 0 (hp b<|by exact bQ zd0 hr0)<|Mb (q b) (fun _=>Kf 1<|li<|rr0<|Int.ofNat a) fun _=>Kl 0 18 (dc a)<|Kf 0<|d<|by exact jf zd0 hr0 hj0 (by omega)
theorem ZE(l:List TUnit)(g:Nat)(p:PId)(q:TUnit→Bool)(hp:∀k,k∈l→kP g [eU k,.pptr [aK p] 0 0] (.bool (q k)))(hl:l.length<2^40):kP 30 [.ls (l.map aV),.func (.func g) [] [.pptr [aK p] 0 0]] (iV (dY q l 0)):=by
  have rr0 b' (h:(dY q l 0)=b':=by first|exact lV zd0 hr0 hj0 ‹_› |exact hj0):=h;exact bI Tryz.func30<|Kl 2 7 (ln aV l)<|Mg 0<|uT aV l [0,1,7,8] (fun a _=>([aW<|l.map aV,bY (bV g) [] [AV.pptr [aa [iV p.a,iV p.i,iV p.n]] 0 0],nV l.length,nV a],[])) (fun a=>dY q l (0:Nat)=dY q a (l.length-a.length)) sA (fun _ _ zd0 _ hr0 a hj0=>Kh 0 a<|Kf 0<|li<|rr0 (-1)) fun a _ zd0 _ b c d hr0 e _ f hj0=>have f:=f.trans<|congrArg some<|aR b;Kt 0 e<|Kx 4 f<|Kp 0 (hp b<|by exact bQ zd0 hr0)<|Mb (q b) (fun _=>Kf 1<|li<|rr0<|Int.ofNat a) fun _=>Kl 0 18 (dc a)<|Kf 0<|d<|by exact jf zd0 hr0 hj0 (by omega)
theorem Ra{D a:Nat}{w:TUnit}{r:List TUnit}{u:TUnit}(h:D=Nat.max a (kr (w::r))∧a≤2^20)(q0:nU w<nU u)(q1:m5 w<nU w)(hn:nU u≤2^20):D=Nat.max (Nat.max a (1+m5 w)) (kr r)∧Nat.max a (1+m5 w)≤2^20:=by
  grind[kr]
theorem Um{D a:Nat}(h:D=Nat.max a (kr [])∧a≤2^20):D=a:=by
  simp_all[CF]
theorem G7:∀(u:TUnit),nU u≤2^20→kP 202 [eU u] (nV (m5 u)):=by
  refine TUnit.ind fun u ih hn=>?_
  have hkl:=bg u
  have ihk:∀k,k∈u.kids→kP 202 [eU k] (nV (m5 k)):=fun k hk=>ih k hk (bR (tZ (iE hk)) hn)
  have rr0 b' (h:(Int.ofNat (m5 u))=b':=by(rw[Ly,Um hj0])):=h;exact bI Tryz.func202<|Kl 5 8 (ln aV u.kids)<|Mg 0<|OW aV u.kids (0:Nat) [3,7,8,9] (fun a _ b=>([nV b,aW<|u.kids.map aV,nV u.kids.length,nV a],[aZ 8 false 0 [aa [iV u.act,iV u.item,iV u.n,iV u.kind,ax u.label,aW<|u.head.map aQ,aW<|u.words.map aQ,aW<|u.kids.map aV]]])) (fun a b=>kr u.kids=b.max (kr a)∧b≤2^20) sA (fun _ _ a _ _ _ b hj0=>Kh 0 b<|Kf 1<|li<|rr0<|Int.ofNat a) fun a _ b c d e f g i j _ l _=>have l:=(l).trans<|congrArg some<|aR e;have hj0:=ca (J:=fun a b=>kr u.kids=b.max (kr a)∧b≤2^20) (a:=b) i d;have d:=iE<|bQ c i;have m:=DR e;Kt 0 j<|Mx l<|Kp 4 (ihk e<|by exact bQ c i)<|Kl 0 16 (b8 (x:=(1:Int)+Int.ofNat (m5 e)) (n:=(1:Nat)+m5 e) fc)<|Kl 0 17 (pi (k:=IntKind.i64)<|WV b<|1+m5 e)<|Kl 1 18 (iP a)<|K1 0 (.frz 1 [3,7,8,9]) (et rt ti)<|Mf<|g (b.max<|1+m5 e)<|by exact Ra hj0 d m hn
theorem Lq(g:Nat)(q:TUnit→Bool):∀(u:TUnit),(∀x,x∈bu u→kP g [eU x] (.bool (q x)))→u.kids.length<2^40→(∀x,x∈bu u→x.kids.length<2^40)→kP 39 [eU u,.func (.func g) [] []] (.bool (vT q u)):=by
  refine TUnit.ind fun u ih hp hl hk=>?_
  have ihk:∀k,k∈u.kids→kP 39 [eU k,.func (.func g) [] []] (.bool (vT q k)):=fun k hm=>ih k hm (fun x hx=>hp x (bH hm hx)) (hk k (K4 hm)) (fun x hx=>hk x (bH hm hx))
  have hs:=hp u (dl u)
  have rr0 b' (h:(vT q u)=b':=by first|(rw[yz];simp only[aS,aj,bS, *];done)|(rw[yz,hj0,N2])|(rw[yz,hj0,AH];simp only[aS,aj,bS, *];done)):=h;exact bI Tryz.func39<|Kp 3 hs<|Kn 0 (q u) (fun _=>Ky 0<|rr0 false) fun _=>Kl 2 13 (ln aV u.kids)<|K1 0 (.frz 0 [1,12,13,14]) ti<|uT aV u.kids [1,12,13,14] (fun a _=>([bY (bV g) [] [],aW<|u.kids.map aV,nV u.kids.length,nV a],[])) (fun a=>(q u&&(dA u.kids).all q)=(dA a).all q) (by(simp only[aS,aj,bS, *];done)) (fun _ _ _ _ _ a hj0=>Kh 0 a<|Ky 0<|rr0 true) fun a _ b _ c d e f i _ j hj0=>have j:=j.trans<|congrArg some<|aR c;Kt 0 i<|Mx j<|Kp 4 (ihk c<|by exact bQ b f)<|Kn 0 (vT q c) (fun _=>Kf 0<|ch<|rr0 false) fun _=>Kl 0 22 (dc a)<|K1 0 (.frz 0 [1,12,13,14]) ti<|Mf<|e<|by simp_all[AH]
theorem ND(u:TUnit)(n:Nat)(hn:n<2^40):kD 40 [eU u,.ptr 0 0 0 0] (av [.row 1 false 0 [nV n]]) (.bool true) (av [.row 1 false 0 [nV (n+1)]]):=by
  exact ed Tryz.func40 fun a=>Kl 3 5 (iP n)<|K1 1 (.frz 1 [3]) (et rt ti)<|Mf a
theorem GG:∀(u:TUnit),∀(n:Nat),n+nU u<2^40→kD 39 [eU u,.func (.func 40) [] [.ptr 0 0 0 0]] (av [.row 1 false 0 [nV n]]) (.bool true) (av [.row 1 false 0 [nV (n+nU u)]]):=by
  refine TUnit.ind fun u ih n hn=>?_
  have hq:=jK u
  have hl:=bg u
  exact Jt Tryz.func39<|K1 3 (.frz 1 [1,2,7,8]) (et rt ti)<|Me (ND u n oA)<|Kl 4 13 (ln aV u.kids)<|Mg 0<|OW aV u.kids (n+1) [1,12,13,14] (fun a _ b=>([bY (bV 40) [] [bz 0 0 0 0],aW<|u.kids.map aV,nV u.kids.length,nV a],[aZ 1 false 0 [nV b]])) (fun a b=>n+nU u=b+eW a∧b+eW a<2^40) oA (fun _ _ a _ _ _ b _=>Kh 0 b<|Kf 0<|et (aY<|eC true) (by simp_all[mU]:(av [AObj.row 1 false 0 [nV a]])=(av [AObj.row 1 false 0 [nV (n+nU u)]]))) fun a _ b c _ d e f g h _ i _=>have i:=i.trans<|congrArg some<|aR d;have c:=bQ c g;have g:b+nU d<2^40:=(by grind[bf]);Kt 0 h<|Mx i<|K1 4 (.frz 1 [1,12,13,14,18,19]) (et rt ti)<|Me (ih d c b g)<|Kl 2 22 (iP a)<|Kf 0<|f (b+nU d)<|by grind[bf]
theorem DT(u:TUnit)(hn:nU u<2^39):kP 23 [eU u] (nV (nU u)):=by
  have rr0 b' (h:(Int.ofNat (nU u))=b':=by(rw[fZ])):=h;exact bI Tryz.func23<|Mg 5<|M0 (.ren [1,0] [] [3,4,5])<|M1 (.frz 1 [3,4,5]) (et rt ti)<|Me (GG u 0 oA)<|Kf 1<|li<|rr0<|Int.ofNat<|0+nU u
noncomputable abbrev rH(ep n:Nat):AObj:=.row 1 false 0 [.slice 1 ep 0 n none]
noncomputable abbrev MC(ep:Nat)(l:List PId):AObj:=.row 3 true ep (l.map aK)
theorem Wr(u:TUnit):kD 203 [eU u,.ptr 0 0 0 0] (av [.row 1 false 0 [.nils]]) (.bool true) (av [rH 0 1,MC 0 [bJ u]]):=by
  exact wcq Tryz.func203 (.go 8<|.ren [0,2,1] [] [3]<|.frz 2 [3] .fin) fun a=>et (bT rt rt ti) a
theorem Ws(u:TUnit)(ep n:Nat)(l:List PId)(hn:n=l.length)(hl:l.length<2^30):kD 203 [eU u,.ptr 0 0 0 0] (av [rH ep n,MC ep l]) (.bool true) (av [rH (ep+1) (n+1),MC (ep+1) (l++[bJ u])]):=by
  exact ed Tryz.func203 fun a=>K1 5 .app (bT (aY ep) (sA:n=(l.map aK).length) (by(refine aL (m:=2^31) ?_ ?_ ?_<;>omega):small (n+1) 24=true))<|M1 (.obj 1<|aZ 3 true (ep+1)<|(l++[PId.mk u.act u.item u.n]).map aK) (congrArg (aZ 3 true<|ep+1)<|ce (f:=aK) (l:=l) (ws:=[PId.mk u.act u.item u.n]))<|K1 1 (.frz 2 [3]) (bT (tR 3 true (ep+1) 2<|aX JJ<|l++[PId.mk u.act u.item u.n]) rt ti)<|Mf a
theorem Nr:∀(u:TUnit),∀(ep n:Nat)(l:List PId),n=l.length→l.length+nU u<2^30→kC 39 [eU u,.func (.func 203) [] [.ptr 0 0 0 0]] (av [rH ep n,MC ep l])
    (fun v h=>∃y:Nat×Nat×List PId,(y.2.1=y.2.2.length∧y.2.2=l++dw u)∧v=.bool true∧h=av [rH y.1 y.2.1,MC y.1 y.2.2]):=by
  refine TUnit.ind fun u ih ep n l hn hl=>?_
  have hq:=jK u
  have hkl:=bg u
  exact qY Tryz.func39 fun a=>K1 3 (.frz 2 [1,2,7,8]) (bT (tR 3 true ep 2<|aX JJ l) rt ti)<|Me (Ws u ep n l hn oA)<|Kl 4 13 (ln aV u.kids)<|Mg 0<|VZ aV u.kids (ep+1) (n+1) (l++[bJ u]) [1,12,13,14] (fun a _ b c d=>([bY (bV 203) [] [bz 0 0 0 0],aW<|u.kids.map aV,nV u.kids.length,nV a],[aZ 1 false 0 [aD 1 b 0 c none],aZ 3 true b<|d.map aK])) (fun a _ b c=>b=c.length∧c++ii a=l++[bJ u]++ii u.kids∧c.length+eW a<2^30) gR (fun _ _ b c d _ _ _ e _=>Kh 0 e<|Kf 0<|a (b,c,d)<|by grind[rk,nl]) fun a _ b c d e f g i j k m _ o _=>have o:=(o).trans<|congrArg some<|aR g;have:=ca (J:=fun a b=>b.2.1=b.2.2.length∧b.2.2++ii a=l++[bJ u]++ii u.kids∧b.2.2.length+eW a<2^30) (a:=(b,c,d)) k f;have e:=bQ e k;have f:d.length+nU g<2^30:=(by grind[bf]);Kt 0 m<|Mx o<|K1 4 (.frz 2 [1,12,13,14,18,19]) (bT (tR 3 true b 2<|aX JJ d) rt ti)<|Mq (ih g e b c d oA f) fun b _=>Kl 2 22 (dc a)<|Kf 0<|j b.1 b.2.1 b.2.2<|by grind[bf,gz,uq]
theorem Vx(l:List PWord)(hl:l.length≤300)(hs:∀w,w∈l→w.text.length≤2^39):kP 283 [.ls (l.map aQ)] (.bool (oF l)):=by
  have hv:=KZ (l.map PWord.text) (by grind) (fun s hm=>by grind)
  have rr0 b' (h:(oF l)=b':=by(simp only[oF,aS,aj,bS, *])):=h;exact bI Tryz.func283<|Kl 3 7 (ln aQ l)<|Mg 0<|kg Nat Nat (List aO) aQ l [0,3,6,7,8] (fun a _=>([aW<|l.map aQ,ay,aW<|l.map aQ,nV l.length,nV a],[])) (fun a _ b c d=>([aW<|l.map aQ,aD 0 b 0 c none,aW<|l.map aQ,nV l.length,nV a],[aZ 1 true b<|d.map m0])) (fun a=>a=l) (fun a _ b c=>b=c.length∧(0:Nat)<c.length∧c++List.map PWord.text a=List.map PWord.text l∧c.length+a.length=l.length) (by rfl) (fun _ _ _ _ _ a _=>Kh 0 a<|Kl 1 19 (ln aQ l)<|Kd 1 256 (Int.ofNat l.length) (fun a _=>Kt 0 (cS a)<|Mp (aM.onArgs (.cons (Le.lsn (sA:((l.map PWord.text).map m0)=[])) .nil) hv:kP 216 [ay] _)<|MV (cS a)<|Kf 0<|ch<|rr0<|qa<|l.map PWord.text) fun a _=>Mh (cD a)<|My (cD a)<|Kf 0<|ch<|rr0 false) (fun a _ _ _ b c _ d _ e _ f g=>Kt 0 e<|Mx f<|Kl 9 17 (iP a)<|Mg 0<|M0 (.ren [1,0] [] [0,3,6,7,8])<|M1 (.frz 1 [0,3,6,7,8]) (et rt ti)<|Mf<|d 0 1 [b.text]<|by(refine⟨rfl,by simp,?_,?_⟩<;>(rw[←g])<;>(first|rfl|grind))) (fun _ _ a b c _ _ _ d _=>Kh 0 d<|Kl 1 19 (ln aQ l)<|Kd 1 256 (Int.ofNat l.length) (fun d _=>Mg 0<|M2 (.fsl 0 [21] 22<|c.map m0) ti (bT (aY a) (tA m0 c b (oA:(c).length=b))<|aX JW c)<|Ml 22 (e9 (c.map m0) false<|aX JW c)<|Mt (cS d)<|Mp (aM.onArgs (.cons (cY (sA:((l.map PWord.text).map m0)=(c.map m0))) .nil) hv:kP 216 [aW (c.map m0)] _)<|MV (cS d)<|Kf 0<|ch<|rr0<|qa<|l.map PWord.text) fun a _=>Mh (cD a)<|My (cD a)<|Kf 0<|ch<|rr0 false) fun a _ b c d _ _ e f _ g _ i _ j k=>Kt 0 i<|Mx j<|K1 6 .app (bT (aY b) (sA:c=(d.map m0).length) (by(refine aL (m:=2^20) ?_ ?_ ?_<;>omega):small (c+1) 16=true))<|M1 (.obj 0<|aZ 1 true (b+1)<|(d++[e.text]).map m0) (congrArg (aZ 1 true<|b+1)<|ce (f:=m0) (l:=d) (ws:=[e.text]))<|Kl 1 17 (iP a)<|K1 0 (.frz 1 [0,3,6,7,8]) (et (tR 1 true (b+1) 1<|aX JW<|d++[e.text]) ti)<|Mf<|g (b+1) (c+1) (d++[e.text])<|by(refine⟨by simp_all,by simp,?_,?_⟩<;>first|(rw[←k.2.2.1];simp;done)|grind)
theorem o8(a b:Nat):Int.ofNat (a+b)=Int.ofNat a+Int.ofNat b:=rfl
theorem SU(u:TUnit)(h1:u.head.length≤300)(h2:u.words.length≤300)(h3:u.kids.length<2^30)(h4:u.label.length≤2^39)(h5:∀w,w∈u.head→w.text.length≤2^39)(h6:∀w,w∈u.words→w.text.length≤2^39):kP 267 [eU u] (.bool (mQ u)):=by
  have hlk:∀(m:List ((Int×aO)×Bool))(a:Int)(s:aO),eO (some (.bool false)) false (bb true 2 [(0,1),(1,2)] (.agg [iV a,.str s]) (cQ pE da m 0) 0)=some (.bool (OV mS (a,s) m)):=fun m a s=>FO K5 m (a,s)
  have hup:∀(m:List ((Int×aO)×Bool))(a:Int)(s:aO),rF (cQ pE da m 0) m.length (.agg [iV a,.str s]) (.bool true) (bb true 2 [(0,1),(1,2)] (.agg [iV a,.str s]) (cQ pE da m 0) 0)=some (cQ pE da (fD mS (a,s) true m) 0,(fD mS (a,s) true m).length):=fun m a s=>JD K5 m (a,s)
  have r1:=Vx u.head h1 h5
  have r2:=Vx u.words h2 h6
  have r3:=uX u.label h4
  have rr0 b' (h:(mQ u)=b':=by first|(rw[mQ,hj0,mM];simp only[Dn,bq,o8,cond_true,cond_false,aS,aj,bS,wY,Bool.false_and,Bool.not_true,Bl,Bool.true_and, *];first|done|rfl)|(simp only[mQ,Dn,bq,o8,cond_true,cond_false,aS,aj,bS, *];done)|(simp only[mQ,mM,Dn,bq,o8,cond_true,cond_false,aS,aj,bS, *];done)|(simp only[mQ,mM,Dn,bq,o8,cond_true,cond_false,aS,aj,bS,wY,Bool.false_and,Bool.not_true,Bl,Bool.true_and, *];first|done|rfl)):=h;exact bI Tryz.func267<|Kj 4 u.kind 0 (fun _ b=>Kn 3 (eJ u.label (ByteArray.mk #[]).data.toList) (fun b=>Mt (cS b)<|Mt (cS b)<|Mt (cS b)<|Mt (cS b)<|Mt (cS b)<|Mt (cS b)<|Mt (cS b)<|MV (cS b)<|Ky 1<|rr0 false) fun c=>Kh 0 (cD c)<|Kh 0 (cD c)<|Kl 0 16 (ln aQ u.head)<|Mh (cD c)<|Kh 0 (cD c)<|Kh 0 (cD c)<|Kl 0 19 (ln aQ u.words)<|Mh (cD c)<|Kl 0 20 (Le.wr (x:=Int.ofNat u.head.length+Int.ofNat u.words.length) fc)<|Mh (cD c)<|Kw 0 (cD c)<|Mb (aC 0<|Int.ofNat u.head.length+Int.ofNat u.words.length) (fun b=>have:=ap b;Ky 0<|rr0 false) fun c=>have:=aG c;Kl 4 48 (ln aV u.kids)<|Mg 0<|OW aV u.kids ([]:List ((Int×aO)×Bool)) [1,3,47,48,49] (fun b _ c=>([bz 0 0 0 0,AV.map 1,aW<|u.kids.map aV,nV u.kids.length,nV b],[aZ 8 false 0 [aa [iV u.act,iV u.item,iV u.n,iV u.kind,ax u.label,aW<|u.head.map aQ,aW<|u.words.map aQ,aW<|u.kids.map aV]],AObj.map (cQ pE da c 0) c.length])) (fun b c=>mM u.kind u.kids []=mM u.kind b c) (by rfl) (fun _ _ _ _ _ _ b hj0=>Kh 0 b<|Kl 2 74 (ln aV u.kids)<|Kf 1<|ch<|rr0<|aj<|aC 64<|Int.ofNat u.kids.length) fun c _ d _ _ e f g _ i _ j hj0=>have j:=j.trans<|congrArg some<|aR e;Kt 0 i<|Mx j<|Kl 11 59 (pi (k:=IntKind.i64) b)<|Kp 1 (zk 0 e.kind)<|Kn 1 (jz 0 e.kind) (fun b=>Mt (cS b)<|Mt (cS b)<|MV (cS b)<|Ky 1<|rr0 false) fun b=>Kh 0 (cD b)<|Kh 0 (cD b)<|M1 (.look<|eC<|OV mS (e.kind,e.label) d) (hlk d e.kind e.label)<|My (cD b)<|Mb (OV mS (e.kind,e.label) d) (fun _=>Kf 0<|ch<|rr0 false) fun _=>K1 1 (.upd (cQ pE da (fD mS (e.kind,e.label) true d) 0) (fD mS (e.kind,e.label) true d).length) (hup d e.kind e.label)<|Kl 0 71 (dc c)<|K1 0 (.frz 2 [1,3,47,48,49]) (bT (tM (fD mS (e.kind,e.label) true d).length 2 (by exact cX K5 Aj _ _:fq (cQ pE da (fD mS (e.kind,e.label) true d) 0)=0)) rt ti)<|Mf<|g (fD mS (e.kind,e.label) true d)<|by(rw[hj0,mM];simp only[aS,aj,bS, *];done)) fun _ _=>Kp 1 (wL u.kind)<|Kb 1 (eJ (dW u.kind) (ByteArray.mk #[]).data.toList) (fun b=>Mt b<|Mt b<|Mt b<|MV b<|Ky 5<|rr0 false) fun b=>Kh 0 b<|Kh 0 b<|Mp r3<|Mh b<|Kw 0 b<|Kn 0 (kq u.label) (fun b=>Mt (cS b)<|Mt (cS b)<|Mt (cS b)<|MV (cS b)<|Ky 3<|rr0 false) fun b=>Kh 0 (cD b)<|Kh 0 (cD b)<|Mp r1<|Mh (cD b)<|Kw 0 (cD b)<|Kn 0 (oF u.head) (fun b=>Mt (cS b)<|Mt (cS b)<|Mt (cS b)<|MV (cS b)<|Ky 1<|rr0 false) fun b=>Kh 0 (cD b)<|Kh 0 (cD b)<|Mp r2<|Mh (cD b)<|Kw 0 (cD b)<|Mn (oF u.words) (fun _=>Ky 0<|rr0 false) fun _=>Kl 4 48 (ln aV u.kids)<|Mg 0<|OW aV u.kids ([]:List ((Int×aO)×Bool)) [1,3,47,48,49] (fun b _ c=>([bz 0 0 0 0,AV.map 1,aW<|u.kids.map aV,nV u.kids.length,nV b],[aZ 8 false 0 [aa [iV u.act,iV u.item,iV u.n,iV u.kind,ax u.label,aW<|u.head.map aQ,aW<|u.words.map aQ,aW<|u.kids.map aV]],AObj.map (cQ pE da c 0) c.length])) (fun b c=>mM u.kind u.kids []=mM u.kind b c) (by rfl) (fun _ _ _ _ _ _ b hj0=>Kh 0 b<|Kl 2 74 (ln aV u.kids)<|Kf 1<|ch<|rr0<|aj<|aC 64<|Int.ofNat u.kids.length) fun b _ c _ _ d e f _ g _ i hj0=>have i:=i.trans<|congrArg some<|aR d;Kt 0 g<|Mx i<|Kp 13 (zk u.kind d.kind)<|Kn 1 (jz u.kind d.kind) (fun b=>Mt (cS b)<|Mt (cS b)<|MV (cS b)<|Ky 1<|rr0 false) fun g=>Kh 0 (cD g)<|Kh 0 (cD g)<|M1 (.look<|eC<|OV mS (d.kind,d.label) c) (hlk c d.kind d.label)<|My (cD g)<|Mb (OV mS (d.kind,d.label) c) (fun _=>Kf 0<|ch<|rr0 false) fun _=>K1 1 (.upd (cQ pE da (fD mS (d.kind,d.label) true c) 0) (fD mS (d.kind,d.label) true c).length) (hup c d.kind d.label)<|Kl 0 71 (dc b)<|K1 0 (.frz 2 [1,3,47,48,49]) (bT (tM (fD mS (d.kind,d.label) true c).length 2 (by exact cX K5 Aj _ _:fq (cQ pE da (fD mS (d.kind,d.label) true c) 0)=0)) rt ti)<|Mf<|f (fD mS (d.kind,d.label) true c)<|by(rw[hj0,mM];simp only[aS,aj,bS, *];done)
theorem I5(u:TUnit)(hl:nU u<2^29):kC 39 [eU u,.func (.func 203) [] [.ptr 0 0 0 0]] (av [.row 1 false 0 [.nils]])
    (fun v h=>∃y:Nat×Nat×List PId,(y.2.1=y.2.2.length∧y.2.2=dw u)∧v=.bool true∧h=av [rH y.1 y.2.1,MC y.1 y.2.2]):=by
  have hq:=jK u
  have hkl:=bg u
  exact qY Tryz.func39 fun a=>K1 3 (.frz 1 [1,2,7,8]) (et rt ti)<|Me (Wr u)<|Kl 4 13 (ln aV u.kids)<|Mg 0<|VZ aV u.kids (0:Nat) (1:Nat) ([bJ u]:List PId) [1,12,13,14] (fun a _ b c d=>([bY (bV 203) [] [bz 0 0 0 0],aW<|u.kids.map aV,nV u.kids.length,nV a],[aZ 1 false 0 [aD 1 b 0 c none],aZ 3 true b<|d.map aK])) (fun a _ b c=>b=c.length∧c++ii a=[bJ u]++ii u.kids∧c.length+eW a<2^30) gR (fun _ _ b c d _ _ _ e f=>Kh 0 e<|Kf 0<|a (b,c,d)<|by(refine⟨f.1,?_⟩;have:=f.2.1;rw[rk,ec]at this;rw[this,nl];rfl)) fun a _ b c d e f g i j k l _ m _=>have m:=(m).trans<|congrArg some<|aR g;have:=ca (J:=fun a b=>b.2.1=b.2.2.length∧b.2.2++ii a=[bJ u]++ii u.kids∧b.2.2.length+eW a<2^30) (a:=(b,c,d)) k f;have:=bQ e k;have e:d.length+nU g<2^30:=(by grind[bf]);Kt 0 l<|Mx m<|K1 4 (.frz 2 [1,12,13,14,18,19]) (bT (tR 3 true b 2<|aX JJ d) rt ti)<|Mq (Nr g b c d oA e) fun b _=>Kl 2 22 (dc a)<|Kf 0<|j b.1 b.2.1 b.2.2<|by grind[bf,gz,uq]
theorem Qu(u:TUnit)(hl:nU u<2^29):kP 145 [eU u] (.ls ((dw u).map aK)):=by
  have rr0 b' (h:((dw u).map aK)=b':=by(rw[hy0.2])):=h;exact bI Tryz.func145<|Mg 4<|M0 (.ren [1,0] [] [3,4,5])<|M1 (.frz 1 [3,4,5]) (et rt ti)<|Mq (I5 u hl) fun a hy0=>Mg 1<|M2 (.fsl 0 [] 2<|a.2.2.map aK) ti (bT (aY a.1) (tA aK a.2.2 a.2.1 (oA:(a.2.2).length=a.2.1))<|aX JJ a.2.2)<|Ml 2 (e9 (a.2.2.map aK) false<|aX JJ a.2.2)<|Mf<|cY<|rr0<|a.2.2.map aK
theorem Wp(u:TUnit)(hl:nU u<2^20):kP 268 [eU u] (.bool (QA u)):=by
  have hb:(dw u).length<2^20:=by grind[uq]
  have hi:=Qu u (by omega)
  have hlk:∀(m:List (PId×Bool))(a b c:Int),eO (some (.bool false)) false (bb true 3 [(0,1),(1,1),(2,1)] (.agg [iV a,iV b,iV c]) (cQ aK da m 0) 0)=some (.bool (OV bh ⟨a,b,c⟩ m)):=fun m a b c=>FO ID m ⟨a,b,c⟩
  have hup:∀(m:List (PId×Bool))(a b c:Int),rF (cQ aK da m 0) m.length (.agg [iV a,iV b,iV c]) (.bool true) (bb true 3 [(0,1),(1,1),(2,1)] (.agg [iV a,iV b,iV c]) (cQ aK da m 0) 0)=some (cQ aK da (fD bh ⟨a,b,c⟩ true m) 0,(fD bh ⟨a,b,c⟩ true m).length):=fun m a b c=>JD ID m ⟨a,b,c⟩
  have rr0 b' (h:(QA u)=b':=by((try clear gh1);(try clear gh2);(try clear gh3);(try clear gh4);(try clear gh5);(try clear gh6);(try clear gh7);have e:=CC (kenc:=aK) (f:=da) za0 0;simp only[e,lM]at *;simp only[QA,fE,bh,bJ,bj,hj0,L8,aS,aj,bS, *];first|done|rfl)):=h;exact bI Tryz.func268<|Kp 2 hi<|Kl 4 12 (ln aK<|dw u)<|Mg 0<|OW aK (dw u) ([]:List (PId×Bool)) [1,3,4,11,12,13] (fun d _ g=>([bz 0 0 0 0,aW<|(dw u).map aK,AV.map 1,aW<|(dw u).map aK,nV (dw u).length,nV d],[aZ 8 false 0 [aa [iV u.act,iV u.item,iV u.n,iV u.kind,ax u.label,aW<|u.head.map aQ,aW<|u.words.map aQ,aW<|u.kids.map aV]],AObj.map (cQ aK da g 0) g.length])) (fun d g=>BP (dw u) []=BP d g) (by rfl) (fun _ _ za0 _ _ _ d hj0=>Kh 0 d<|K1 1 (.look<|eC<|OV bh (PId.mk 0 0 0) za0) (hlk za0 0 0 0)<|Kb 2 (OV bh (PId.mk 0 0 0) za0) (fun d=>Kt 0 d<|Kt 0 d<|Ku 0 d<|Kj 0 (Int.ofNat (cQ aK da za0 0).length) 1 (fun d gh2=>Mt d<|Mt d<|Mt d<|Mt d<|Mt d<|Mt d<|MV d<|Ky 0<|rr0 true) fun d gh2=>Kh 0 d<|Kh 0 d<|Kh 0 d<|Kh 0 d<|Kh 0 d<|Kj 0 (Int.ofNat (cQ aK da za0 0).length) (Int.ofNat ((dw u).map aK).length) (fun g gh3=>Kt 0 g<|Kt 0 g<|Kt 0 g<|Kt 0 g<|Kt 0 g<|Kt 0 g<|Mv (kR ((Tryz.prog).underlying 24) u.act u.item u.n 0 0 0 h0)<|Mt g<|Kh 0 d<|MV g<|My d<|Kf 0<|ch<|rr0<|ah u.kind 0==(ah u.act 0&&(ah u.item 0&&ah u.n 0))) fun g gh3=>Mh g<|Mh g<|Mh g<|Mh g<|Mh g<|Mh g<|Mh g<|Mh d<|My g<|My d<|Ky 0<|rr0 false) fun d=>Mh d<|Mh d<|My d<|Kj 6 (Int.ofNat (cQ aK da za0 0).length) (Int.ofNat ((dw u).map aK).length) (fun d gh4=>Kt 0 d<|Kt 0 d<|Kt 0 d<|Kt 0 d<|Kt 0 d<|Kt 0 d<|Mv (kR ((Tryz.prog).underlying 24) u.act u.item u.n 0 0 0 h0)<|Mt d<|Ku 0 d<|Kf 1<|ch<|rr0<|ah u.kind 0==(ah u.act 0&&(ah u.item 0&&ah u.n 0))) fun d gh4=>Mh d<|Mh d<|Mh d<|Mh d<|Mh d<|Mh d<|Mh d<|My d<|Ky 1<|rr0 false) fun d _ za0 _ _ g i j _ k _ l hj0=>Kt 0 k<|Mx l<|K1 4 (.upd (cQ aK da (fD bh (PId.mk g.a g.i g.n) true za0) 0) (fD bh (PId.mk g.a g.i g.n) true za0).length) (hup za0 g.a g.i g.n)<|Kl 0 19 (iP d)<|K1 0 (.frz 2 [1,3,4,11,12,13]) (bT (tM (fD bh (PId.mk g.a g.i g.n) true za0).length 2 (by exact cX ID Aj _ _:fq (cQ aK da (fD bh (PId.mk g.a g.i g.n) true za0) 0)=0)) rt ti)<|Mf<|j (fD bh (PId.mk g.a g.i g.n) true za0)<|by(rw[hj0];rfl)
/-- What a tree's parts must be, so that the walks can count. -/
def rS(x:TUnit):Prop:=x.head.length≤300∧x.words.length≤300∧x.label.length≤2^39∧(∀w,w∈x.head→w.text.length≤2^39)∧∀w,w∈x.words→w.text.length≤2^39
def mo(u:TUnit):Prop:=nU u≤2^19∧∀x,x∈bu u→rS x
theorem GH(u:TUnit)(h:mo u):kP 39 [eU u,.func (.func 267) [] []] (.bool (vT mQ u)):=
  Lq 267 mQ u
    (fun x hx=>by
      obtain⟨a,b,c,d,e⟩:=h.2 x hx
      have h1:=bg x
      have h2:=dO hx
      have h3:=h.1
      grind[SU])
    (by have h1:=bg u;have h3:=h.1;omega)
    (fun x hx=>by
      have h1:=bg x
      have h2:=dO hx
      have h3:=h.1
      omega)
theorem xD(u:TUnit)(h:mo u):kP 238 [eU u] (.bool (kH u)):=by
  have h1:=h.1
  have e1:=GH u h
  have e2:=G7 u (by omega)
  have e3:=DT u (by omega)
  have e4:=Wp u (by omega)
  have hd:=DR u
  have rr0 b' (h:(kH u)=b':=by(simp only[kH,aS,aj,bS, *];done)):=h;exact bI Tryz.func238<|Kp 2 e1<|Kb 0 (vT mQ u) (fun a=>Kt 0 a<|Mp e2<|Mt a<|Ku 0 a<|Kn 0 (aC 8<|Int.ofNat<|m5 u) (fun a=>Kt 0 (cS a)<|Mp e3<|Mt (cS a)<|Ku 0 (cS a)<|Kn 0 (aC 1024<|Int.ofNat<|nU u) (fun a=>Kt 0 (cS a)<|Mp e4<|MV (cS a)<|Kf 0<|ch<|rr0<|QA u) fun a=>Mh (cD a)<|My (cD a)<|Ky 0<|rr0 false) fun a=>Mh (cD a)<|Mh (cD a)<|My (cD a)<|Ky 2<|rr0 false) fun a=>Mh a<|Mh a<|My a<|Ky 4<|rr0 false
theorem rl(l:List PWord)(hl:l.length<2^30):kP 49 [.ls (l.map aQ)] (.ls (l.map aQ)):=by
  cases l with
  |nil=>exact aM.ls0 (Ru.less Le.nils) (Rs.lessB (u:=.ls []) (by kernel_rfl))
  |cons w r=>grind[RA]
noncomputable abbrev wz:AObj:=.row 8 false 0 [.agg [iV 0,iV 0,iV 0,iV 0,.str [],.nils,.nils,.nils]]
theorem HZ:∀(u:TUnit),nU u≤2^20→(∀x,x∈bu u→x.head.length<2^30∧x.words.length<2^30)→kP 29 [eU u] (eU u):=by
  refine TUnit.ind fun u ih hn ht=>?_
  have hkl:=bg u
  have c1:=rl u.head (ht u (dl u)).1
  have c2:=rl u.words (ht u (dl u)).2
  have ihk:∀k,k∈u.kids→kP 29 [eU k] (eU k):=fun k hk=>ih k hk (bR (tZ (iE hk)) hn) (fun x hx=>ht x (bH hk hx))
  have rr0 b' (h:(u.kids.map aV)=b':=by first|rfl|(rw[←hj0];rfl)|(rw[←hj0.2.2.1,ec])):=h;let q1:=List.map aQ u.words;let q2:=List.map aQ u.head;exact bI Tryz.func29<|Kp 3 c1<|Kp 1 c2<|Kl 7 16 (ln aV u.kids)<|Mg 0<|kg Nat Nat (List TUnit) aV u.kids [1,2,3,15,16,17] (fun a _=>([bz 0 0 0 0,bz 1 0 0 0,ay,aW<|u.kids.map aV,nV u.kids.length,nV a],[aZ 8 false 0 [aa [iV u.act,iV u.item,iV u.n,iV u.kind,ax u.label,aW<|u.head.map aQ,aW<|u.words.map aQ,aW<|u.kids.map aV]],aZ 8 false 0 [aa [iV 0,iV 0,iV 0,iV 0,ax [],ay,ay,ay]]])) (fun a _ b c d=>([bz 0 0 0 0,bz 1 0 0 0,aD 2 b 0 c none,aW<|u.kids.map aV,nV u.kids.length,nV a],[aZ 8 false 0 [aa [iV u.act,iV u.item,iV u.n,iV u.kind,ax u.label,aW<|u.head.map aQ,aW<|u.words.map aQ,aW<|u.kids.map aV]],aZ 8 false 0 [aa [iV 0,iV 0,iV 0,iV 0,ax [],ay,ay,ay]],aZ 8 true b<|d.map aV])) (fun a=>a=u.kids) (fun a _ b c=>b=c.length∧(0:Nat)<c.length∧c++a=u.kids∧c.length+a.length=u.kids.length) (by rfl) (fun _ _ _ _ _ a hj0=>Kh 0 a<|Kl 0 27 be<|Kf 3 (aP (lc<|lc<|lc<|lc<|lc<|lc<|lc<|.cons (cY<|rr0 []) .nil)<|by kernel_rfl:Le _ (AV.agg [iV u.act,iV u.item,iV u.n,iV u.kind,AV.str u.label,AV.ls q2,AV.ls q1,AV.ls []]))) (fun a _ _ b c d _ e f g _ i _=>have i:=(i).trans<|congrArg some<|aR c;have hj0:=ca (J:=fun a _=>a=u.kids) (a:=()) f b;Kt 0 g<|Mx i<|Kp 4 (ihk c gR)<|K1 1 (.obj 3<|aZ 8 true 0<|List.map aV [c]) (congrArg (aZ 8 true 0)<|FL (f:=aV) (g:=Go.Ev.eU) (ws:=[c]) aR)<|Kl 1 26 (dc a)<|K1 0 (.ren [0,1,3,2] [3] [1,2,3,15,16,17]) (tS 8 true 0<|aX iK [c])<|M1 (.frz 3 [1,2,3,15,16,17]) (jv (tR 8 true 0 3<|aX iK [c]) rt rt ti)<|Mf<|e 0 1 [c]<|by(refine⟨rfl,by simp,?_,?_⟩<;>(rw[←hj0])<;>(first|rfl|grind))) (fun _ _ a b c _ _ _ d hj0=>let e:=List.map aV c;Kh 0 d<|Mg 0<|M2 (.fsl 2 [1,2] 27 e) (bT rt rt ti) (bT (aY a) (tA aV c b (oA:(c).length=b))<|aX iK c)<|Ml 27 (e9 e false<|aX iK c)<|Kf 3 (aP (lc<|lc<|lc<|lc<|lc<|lc<|lc<|.cons (cY<|rr0 e) .nil)<|by kernel_rfl:Le _ (AV.agg [iV u.act,iV u.item,iV u.n,iV u.kind,AV.str u.label,AV.ls q2,AV.ls q1,AV.ls e]))) fun a _ b c d _ e f g _ i j l _ n _=>have n:=(n).trans<|congrArg some<|aR f;have hj0:=ca (J:=fun a b=>b.2.1=b.2.2.length∧(0:Nat)<b.2.2.length∧b.2.2++a=u.kids∧b.2.2.length+a.length=u.kids.length) (a:=(b,c,d)) j e;Kt 0 l<|Mx n<|Kp 4 (ihk f gR)<|K1 0 .app (bT (aY b) (sA:c=(d.map aV).length) (by(refine aL (m:=2^21) ?_ ?_ ?_<;>omega):small (c+1) 120=true))<|M1 (.obj 2<|aZ 8 true (b+1)<|(d++[f]).map aV) (congrArg (aZ 8 true<|b+1)<|yZ (f:=aV) (g:=Go.Ev.eU) (l:=d) (ws:=[f]) aR)<|Kl 1 26 (dc a)<|K1 0 (.frz 3 [1,2,3,15,16,17]) (jv (tR 8 true (b+1) 3<|aX iK<|d++[f]) rt rt ti)<|Mf<|i (b+1) (c+1) (d++[f])<|by(refine⟨by simp_all,by simp,?_,?_⟩<;>first|(rw[←hj0.2.2.1];simp;done)|grind)
theorem WI(p:PId)(u:TUnit)(h:By (bA p u) true)(hn:nU u≤2^20)(ht:∀x,x∈bu u→x.head.length<2^30∧x.words.length<2^30):kP 17 [eU u,aK p] (.tuple [eU (dh p u),.bool true]):=by
  have hw:=EH p u h hn
  have hlen:=mK (p:=p) u
  have hpos:0<(aE p u).length:=pt.2 (lY h)
  have hm:dh p u∈bu u:=JB u _ (Q6 h)
  have hf:dh p u=gD (aE p u) ((aE p u).length -1):=by unfold dh;simp_all
  have hc:=HZ (dh p u) (bR (dO hm) hn) (fun x hx=>ht x (by
    grind[i9]))
  rw[hf]at hc ⊢
  have hz:=Rz hpos
  exact bI Tryz.func17<|Kp 5 hw<|Kl 2 11 (ln aV<|aE p u)<|Kh 0 hz<|Kl 2 16 (ln aV<|aE p u)<|Kl 0 17 (wj (aE p u).length)<|Mx ((aT aV (oA:(aE p u).length -1<(aE p u).length)).trans<|congrArg some<|aR _)<|Kp 0 hc<|Kf 1<|bd<|bP [aa [iV (gD (aE p u)<|(aE p u).length -1).act,iV (gD (aE p u)<|(aE p u).length -1).item,iV (gD (aE p u)<|(aE p u).length -1).n,iV (gD (aE p u)<|(aE p u).length -1).kind,ax (gD (aE p u)<|(aE p u).length -1).label,aW<|List.map aQ (gD (aE p u)<|(aE p u).length -1).head,aW<|List.map aQ (gD (aE p u)<|(aE p u).length -1).words,aW<|List.map aV (gD (aE p u)<|(aE p u).length -1).kids],eC true]
theorem WM(p:PId)(u:TUnit)(h:By (bA p u) false)(hn:nU u≤2^20):kP 17 [eU u,aK p] (.tuple [eU bc,.bool false]):=by
  have hw:=JA p u h hn
  exact bI Tryz.func17<|Kp 5 hw<|Kf 7 (ct<|.cons (aP (lc<|lc<|lc<|lc<|lc<|.cons be<|.cons be<|.cons be .nil)<|by kernel_rfl)<|lc .nil:Le _ (bP [aa [iV 0,iV 0,iV 0,iV 0,ax [],ay,ay,ay],eC false]))
theorem Q5(p:PId)(u:TUnit)(hn:nU u≤2^20)(ht:∀x,x∈bu u→x.head.length<2^30∧x.words.length<2^30):kP 17 [eU u,aK p] (.tuple [eU (dh p u),.bool (bA p u)]):=by
  cases h:bA p u with
  |true=>grind[WI]
  | false=>
    have:=WM p u h hn
    rwa[show bc=dh p u by unfold dh;simp_all]at this
theorem ifW(l:List PWord)(g:Nat)(q:PWord→Bool)(hp:∀k,k∈l→kP g [aQ k] (.bool (q k)))(hl:l.length<2^40):kP 269 [.ls (l.map aQ),.func (.func g) [] []] (iV (dY q l 0)):=by
  have rr0 b' (h:(dY q l 0)=b':=by first|exact lV zd0 hr0 hj0 ‹_› |exact hj0):=h;exact bI Tryz.func269<|Kl 2 7 (ln aQ l)<|Mg 0<|uT aQ l [0,1,7,8] (fun a _=>([aW<|l.map aQ,bY (bV g) [] [],nV l.length,nV a],[])) (fun a=>dY q l (0:Nat)=dY q a (l.length-a.length)) sA (fun _ _ zd0 _ hr0 a hj0=>Kh 0 a<|Kf 0<|li<|rr0 (-1)) fun a _ zd0 _ b c d hr0 e _ f hj0=>Kt 0 e<|Kx 4 f<|Kp 0 (hp b<|by exact bQ zd0 hr0)<|Mb (q b) (fun _=>Kf 1<|li<|rr0<|Int.ofNat a) fun _=>Kl 0 18 (dc a)<|Kf 0<|d<|by exact jf zd0 hr0 hj0 (by omega)
theorem cfW(l:List PWord)(g:Nat)(q:PWord→Bool)(hp:∀k,k∈l→kP g [aQ k] (.bool (q k)))(hl:l.length<2^40):kP 241 [.ls (l.map aQ),.func (.func g) [] []] (.bool (l.any q)):=by
  have h:=ifW l g q hp hl
  have rr0 b' (h:(l.any q)=b':=by(rw[lf];simp only[aS,aj,bS,rL])):=h;exact bI Tryz.func241<|Kp 2 h<|Kf 1<|ch<|rr0<|aj<|aC (dY q l 0) 0
theorem Cw(w:PWord):kP 240 [aQ w] (.bool (pX w)):=by
  exact bI Tryz.func240<|Kv 4 (FD ((Tryz.prog).underlying 89) w.act w.item w.at_ 0 0 0<|av [aZ 4 false 0 [aa [ax w.text,iV w.act,iV w.item,iV w.at_]]])<|Kf 0<|bd<|eC<|aj<|ah w.act 0&&(ah w.item 0&&ah w.at_ 0)
theorem RT(u:TUnit)(h1:u.head.length<2^40)(h2:u.words.length<2^40):kP 239 [eU u] (.bool (C1 u)):=by
  have c1:=cfW u.head 240 pX (fun k _=>Cw k) h1
  have c2:=cfW u.words 240 pX (fun k _=>Cw k) h2
  have rr0 b' (h:(C1 u)=b':=by(simp only[C1,fE,bh,bJ,bj,aS,aj,bS, *];first|done|rfl)):=h;exact bI Tryz.func239<|Kv 5 (kR ((Tryz.prog).underlying 24) u.act u.item u.n 0 0 0<|av [aZ 8 false 0 [aa [iV u.act,iV u.item,iV u.n,iV u.kind,ax u.label,aW<|u.head.map aQ,aW<|u.words.map aQ,aW<|u.kids.map aV]]])<|Kb 0 (ah u.act 0&&(ah u.item 0&&ah u.n 0)) (fun a=>Kt 0 a<|Kt 0 a<|Kt 0 a<|Mp c1<|Mt a<|Ku 0 a<|Kn 0 (u.head.any pX) (fun a=>Kt 0 (cS a)<|Kt 0 (cS a)<|Kt 0 (cS a)<|Mp c2<|Mt (cS a)<|Ku 0 (cS a)<|Kf 0<|ch<|rr0<|aj<|u.words.any pX) fun a=>Mh (cD a)<|Mh (cD a)<|Mh (cD a)<|Mh (cD a)<|My (cD a)<|Ky 0<|rr0 false) fun a=>Mh a<|Mh a<|Mh a<|Mh a<|My a<|Ky 2<|rr0 false
theorem Xb(u:TUnit)(h:mo u):kP 215 [eU u] (.bool (He u)):=by
  have e1:=xD u h
  have e2:=Lq 239 C1 u (fun x hx=>by
      obtain⟨a,b,_⟩:=h.2 x hx
      grind[RT]) (by have h1:=bg u;have h3:=h.1;omega) (fun x hx=>by
      have h1:=bg x
      have h2:=dO hx
      have h3:=h.1
      omega)
  have rr0 b' (h:(He u)=b':=by(simp only[He,aS,aj,bS, *];first|done|rfl)):=h;exact bI Tryz.func215<|Kp 2 e1<|Kb 0 (kH u) (fun c=>Kt 0 c<|Mp e2<|MV c<|Kf 0<|ch<|rr0<|vT C1 u) fun c=>Mh c<|My c<|Ky 0<|rr0 false
theorem MF(p:PId)(u:TUnit)(hh:bA p u=false)(hn:nU u≤2^20):kP 18 [eU u,aK p] (.tuple [aK bj,iV (-1),.bool false]):=by
  have hw:=JA p u hh hn
  exact bI Tryz.func18<|Kp 6 hw<|Kf 8<|bd<|bP [aa [iV 0,iV 0,iV 0],iV (-1),eC false]
theorem ME(p:PId)(u:TUnit)(hh:bA p u=true)(hl:aC (Int.ofNat (aE p u).length) 2=true)(hn:nU u≤2^20):kP 18 [eU u,aK p] (.tuple [aK bj,iV (-1),.bool false]):=by
  have hw:=EH p u hh hn
  exact bI Tryz.func18<|Kp 6 hw<|Kl 2 14 (ln aV<|aE p u)<|Kt 0 hl<|Kf 3<|bd<|bP [aa [iV 0,iV 0,iV 0],iV (-1),eC false]
theorem Pm(p:PId)(u:TUnit)(h:gC p u=false)(hn:nU u≤2^20):kP 18 [eU u,aK p] (.tuple [aK bj,iV (-1),.bool false]):=by
  grind[MF,ME,gC]
theorem Ph(p:PId)(u:TUnit)(h:gC p u=true)(hn:nU u≤2^20):kP 18 [eU u,aK p] (.tuple [aK (qe p u),iV (o5 p u),.bool true]):=by
  have hl:aC (Int.ofNat (aE p u).length) 2=false:=by grind[gC]
  have hl2:2≤(aE p u).length:=by have:=aG hl;grind
  have hh:bA p u=true:=by
    cases e:bA p u with
    |true=>rfl
    |false=>grind[QC]
  have hw:=EH p u hh hn
  have hlen:=mK (p:=p) u
  have hm:HO p u∈bu u:=JB u _ (ib (by omega))
  have hkn:∀k,k∈(HO p u).kids→nU k≤2^20:=fun k hk=>bR (dO (i9 hm (K4 hk))) hn
  have hkl:(HO p u).kids.length<2^40:=by have:=bg (HO p u);have:=dO hm;omega
  have hi:=ZE (HO p u).kids 31 p (bA p) (fun k hk=>by
    grind[bA,MG,MH]) hkl
  rw[Iv h,Iy h]
  generalize hG:HO p u=y at *
  have hG2:gD (aE p u) ((aE p u).length -2)=y:=hG
  have rr0 b' (h:((bJ y).a)=b':=by(rw[hG2];rfl)):=h;have rr1 b' (h:((bJ y).i)=b':=by(rw[hG2];rfl)):=h;have rr2 b' (h:((bJ y).n)=b':=by(rw[hG2];rfl)):=h;exact bI Tryz.func18<|Kp 6 hw<|Kl 2 14 (ln aV<|aE p u)<|Kh 0 hl<|Kl 2 19 (ln aV<|aE p u)<|Kl 0 20 (b8 (x:=Int.ofNat (aE p u).length -(2:Int)) (n:=(aE p u).length -2) fc)<|Mx ((aT aV (oA:(aE p u).length -2<(aE p u).length)).trans<|congrArg some<|aR _)<|Mg 5<|M0 (.ren [2,3,0,1] [] [4,8,24,25])<|M1 (.frz 2 [4,8,24,25]) (bT rt rt ti)<|Mp (aM.onArgs (.cons (cY (by(rw[hG2];done):(y.kids.map aV)=(List.map aV (gD (aE p u) ((aE p u).length -2)).kids)))<|lc .nil) hi:kP 30 [aW (List.map aV (gD (aE p u) ((aE p u).length -2)).kids),bY (bV 31) [] [AV.pptr [aa [iV p.a,iV p.i,iV p.n]] 0 0]] _)<|Kf 6 (ct<|.cons (aP (.cons (li<|rr0 (gD (aE p u)<|(aE p u).length -2).act)<|.cons (li<|rr1 (gD (aE p u)<|(aE p u).length -2).item)<|.cons (li<|rr2 (gD (aE p u)<|(aE p u).length -2).n) .nil)<|by kernel_rfl)<|lc<|lc .nil:Le _ (bP [aa [iV (gD (aE p u) ((aE p u).length -2)).act,iV (gD (aE p u) ((aE p u).length -2)).item,iV (gD (aE p u) ((aE p u).length -2)).n],iV (dY (bA p) y.kids 0),eC true]))
theorem Pi(p:PId)(u:TUnit)(hn:nU u≤2^20):kP 18 [eU u,aK p] (.tuple [aK (qe p u),iV (o5 p u),.bool (gC p u)]):=by
  grind[gC,Ph,V5,Po,Pm]
theorem Y8(p:PId)(u:TUnit)(h:bA p u=false)(hn:nU u≤2^20):kP 201 [eU u,aK p] (.ls ((pO p u).map aK)):=by
  have hw:=JA p u h hn
  have e:pO p u=[]:=by unfold pO;rw[zN h];rfl
  rw[e]
  let q:=[aZ 8 false 0 [aa [iV u.act,iV u.item,iV u.n,iV u.kind,ax u.label,aW (u.head.map aQ),aW (u.words.map aQ),aW (u.kids.map aV)]],aZ 3 false 0 [aa [iV p.a,iV p.i,iV p.n]]];let q1:=[ay,ay,iV (IntKind.i64.wrap (0-2))];exact bI Tryz.func201<|Kp 5 hw<|Mg 4<|ZK [5,6,7] (q1,q) True 0 ti fun _ _=>Kf 4 be
theorem Y7(p:PId)(u:TUnit)(h:bA p u=true)(hn:nU u≤2^20):kP 201 [eU u,aK p] (.ls ((pO p u).map aK)):=by
  have hw:=EH p u h hn
  have hlen:=mK (p:=p) u
  have hpos:0<(aE p u).length:=pt.2 (lY h)
  have hac:=C3 p u
  have rr0 b' (h:((pO p u).map aK)=b':=by first|rfl|(rw[SK hx0 ‹_›];rfl)|(rw[SV hx0.2.1 oA ‹_›])):=h;exact bI Tryz.func201<|Kp 5 hw<|Kl 0 6 (e9 ((aE p u).map aV) false<|aX iK<|aE p u)<|Kl 1 12 (ln aV<|aE p u)<|Kl 0 13 (Le.wr (x:=Int.ofNat (aE p u).length -2) fc)<|K1 0 (.frz 0 [5,6,7]) ti<|Sb Int Nat Nat (List PId) (Int.ofNat (aE p u).length -2) [5,6,7] (fun a=>([ay,aW<|(aE p u).map aV,iV a],[])) (fun a b c d=>([aD 0 b 0 c none,aW<|(aE p u).map aV,iV a],[aZ 3 true b<|d.map aK])) (fun a=>a=Int.ofNat (aE p u).length -(2:Int)) (fun a _ b c=>b=c.length∧c=ot p u (a+(1:Int)).toNat∧((-1):Int)≤a∧a+(2:Int)≤↑(aE p u).length∧c.length≤(aE p u).length) (fun a=>(a+1).toNat) (fun a _ _ _=>(a+1).toNat) (by rfl) (fun a hx0 _ b=>have hx0:=hx0;Kd 1 a 0 (fun _ _=>Kl 2 20 (AP (x:=a) oA)<|Mx ((aT aV (gR:a.toNat<(aE p u).length)).trans<|congrArg some<|aR _)<|Kl 6 17 (Le.wr (x:=a-1) fc)<|Kf 0<|b (a-1) 0 1 [PId.mk (gD (aE p u) a.toNat).act (gD (aE p u) a.toNat).item (gD (aE p u) a.toNat).n] (by exact⟨rfl,N0 hx0 (by omega),by omega,by grind,by grind⟩) oA) fun _ _=>Kf 1 (Le.lsn<|rr0 []:Le _ (ay))) fun a b c d hx0 _ e=>have hx0:=hx0;Kd 1 a 0 (fun _ _=>Kl 2 20 (AP (x:=a) oA)<|Mx ((aT aV (oA:a.toNat<(aE p u).length)).trans<|congrArg some<|aR _)<|K1 2 .app (bT (aY b) (sA:c=(d.map aK).length) (by(refine aL (m:=2^21) ?_ ?_ ?_<;>omega):small (c+1) 24=true))<|M1 (.obj 0<|aZ 3 true (b+1)<|(d++[PId.mk (gD (aE p u) a.toNat).act (gD (aE p u) a.toNat).item (gD (aE p u) a.toNat).n]).map aK) (congrArg (aZ 3 true<|b+1)<|ce (f:=aK) (l:=d) (ws:=[PId.mk (gD (aE p u) a.toNat).act (gD (aE p u) a.toNat).item (gD (aE p u) a.toNat).n]))<|Kl 2 17 (Le.wr (x:=a-1) fc)<|Kf 0<|e (a-1) (b+1) (c+1) (d++[PId.mk (gD (aE p u) a.toNat).act (gD (aE p u) a.toNat).item (gD (aE p u) a.toNat).n]) (by exact⟨by simp_all,Hm hx0.2.1 hx0.2.2.2.1 (by omega),by omega,by omega,by(have z:=Hm hx0.2.1 hx0.2.2.2.1 (by omega);grind)⟩) oA) fun _ _=>Mg 1<|M2 (.fsl 0 [] 4<|d.map aK) ti (bT (aY b) (tA aK d c (oA:(d).length=c))<|aX JJ d)<|Ml 4 (e9 (d.map aK) false<|aX JJ d)<|Mf<|cY<|rr0<|d.map aK
theorem Hl(p:PId)(u:TUnit)(hn:nU u≤2^20):kP 201 [eU u,aK p] (.ls ((pO p u).map aK)):=by
  grind[Y7,Y8]
end Go.Proofs.YtjokefckffbpeaaGreatDoor
