/- Functions walked: what each of them answers, for Each item of an act that is in force either takes effect or is reported as a failure with the reason that consolidation reports: part 1. Conditions: those that each theorem names. -/
import Derived.Test.YtiodnhiainjfgaaGreatDoorCmb
import Derived.Test.YtiodnhiainjfgaaGreatDoorLay
import Derived.Test.YtiodnhiainjfgaaGreatDoorLay2
namespace Go.Proofs.YtiodnhiainjfgaaGreatDoor
open Go Go.Ev
noncomputable abbrev cZ:=@Le.bool
noncomputable abbrev aW:=@AV.ls
noncomputable abbrev aw:=@AV.agg
noncomputable abbrev aj:=@AV.str
noncomputable abbrev bJ:=@AV.func
noncomputable abbrev bW:=@Fn.func
noncomputable abbrev fw:=@Le.ps
noncomputable abbrev kL:=@AV.ps
noncomputable abbrev ba:=@Le.refl
noncomputable abbrev eP:=@AV.bool
noncomputable abbrev ch:=@Le.tuple
noncomputable abbrev cV:=@AV.tuple
noncomputable abbrev aa:=@AV.nils
noncomputable abbrev aZ:=@AObj.row
noncomputable abbrev fX:=@Re
noncomputable abbrev bY:=@AV.ptr
noncomputable abbrev aG:=@AV.slice
noncomputable abbrev bo:=@Le.nils
noncomputable abbrev Y6:=@ARes.val
noncomputable def pI(x:PWord):Bool:=ax (ap 100 (.ofNat x.text.length))
noncomputable def my(ws:List PWord):Bool:=ws.all pI&&ax (ap 300 (.ofNat ws.length))
theorem FC(x:Int):kP 147 [iV x] (.bool false):=by
  have rr0 b' (h:(false)=b':=by simp[aR]):=h;exact wk Tryz.func147 (.go 4 .fin)<|cZ<|rr0<|ax<|ab x x
theorem pZ(x y:Int):kP 110 [iV x,iV y] (iV (jE x y)):=by
  have rr0 b' (h:(jE x y)=b':=by simp[jE, *]):=h;exact bu Tryz.func110<|Kp 1 (FC x)<|Kp 1 (FC y)<|Kb 7 (ap x y) (fun _=>Kf 0<|li<|rr0 (-1)) fun _=>Kb 2 (ap y x) (fun _=>Kf 0<|li<|rr0 1) fun _=>Kf 0<|li<|rr0 0
theorem EM(ws:List PWord)(hl:ws.length<2^60):kP 156 [.ls (ws.map aQ)] (.bool (my ws)):=by
  have rr0 b' (h:(my ws)=b':=by simp only[my,pI,aS,ax,bS, *]):=h;exact bu Tryz.func156<|Mg 1<|uy aQ ws [0,3] (fun a _=>([aW<|ws.map aQ,nV a],[])) (fun a=>ws.all pI=a.all pI) (by rfl) (fun _ _ _ _ _ a _=>Kl 2 6 (ln aQ ws)<|Kh 0 a<|Kl 1 18 (ln aQ ws)<|Kf 1<|cZ<|rr0<|ax<|ap 300<|Int.ofNat ws.length) fun a _ _ _ b c d _ e _ f _=>Kl 2 6 (ln aQ ws)<|Kt 0 e<|Kx 1 f<|Ka 3 100 (Int.ofNat<|List.length b.text) (fun _ _=>Ky 0<|rr0 false) fun _ _=>Kl 1 9 (de a)<|Kf 0<|d<|by simp_all[pI]
mutual
noncomputable def ka:TUnit→Bool
  |⟨_,_,_,_,label,h,w,kids⟩=>ax (ap 30 (.ofNat label.length))&&my h&&my w&&xN kids
noncomputable def xN:List TUnit→Bool
  |[]=>true
  |u::r=>ka u&&xN r
end
theorem BX:∀(l:List TUnit),xN l=l.all ka
  |[]=>by rw[xN];rfl
  |u::r=>by rw[xN,BX r];rfl
theorem BW(u:TUnit):ka u=(ax (ap 30 (.ofNat u.label.length))&&my u.head&&my u.words&&u.kids.all ka):=by
  obtain⟨a,b,c,d,e,f,g,h⟩:=u
  rw[ka,BX];rfl
theorem Nr:∀(u:TUnit),sy u→kP 128 [eU u] (.bool (ka u)):=by
  refine TUnit.ind fun u ih hf=>?_
  obtain⟨f1,f2,f3,f4⟩:=qk.1 hf
  have rr0 b' (h:(ka u)=b':=by rw[BW];simp only[aS,ax,bS, *]):=h;exact bu Tryz.func128<|Ka 6 30 (Int.ofNat<|List.length u.label) (fun a _=>Mt a<|Mt a<|Mt a<|MV a<|Ky 3<|rr0 false) fun a _=>Kh 0 a<|Kh 0 a<|Mp (EM u.head f1)<|Mh a<|Kw 0 a<|Kn 0 (my u.head) (fun a=>Mt (cW a)<|Mt (cW a)<|Mt (cW a)<|MV (cW a)<|Ky 1<|rr0 false) fun a=>Kh 0 (cQ a)<|Kh 0 (cQ a)<|Mp (EM u.words f2)<|Mh (cQ a)<|Kw 0 (cQ a)<|Mn (my u.words) (fun _=>Ky 0<|rr0 false) fun _=>K1 0 (.frz 0 [1,3]) ti<|uy aV u.kids [1,3] (fun a _=>([AV.pptr [aw [iV u.act,iV u.item,iV u.n,iV u.kind,aj u.label,aW<|u.head.map aQ,aW<|u.words.map aQ,aW<|u.kids.map aV]] 0 0,nV a],[])) (fun a=>u.kids.all ka=a.all ka) (by rfl) (fun _ _ _ _ _ a _=>Kl 3 23 (ln aV u.kids)<|Kh 0 a<|Ky 0<|rr0 true) fun a _ b _ c d e f g _ i _=>have i:=i.trans<|congrArg some<|aO c;Kl 3 23 (ln aV u.kids)<|Kt 0 g<|Kx 2 i<|Kp 0 (ih c (by exact aN b f)<|by exact f4 _ (aN b f))<|Kn 0 (ka c) (fun _=>Kf 0<|cZ<|rr0 false) fun _=>Kl 1 26 (de a)<|Kf 0<|e sA
mutual
noncomputable def mj:TUnit→Int→Int→Int
  |⟨_,_,_,_,_,_,_,kids⟩,deep,most=>match ap 20 deep with|true=>most+1|false=>mw kids deep most 1
noncomputable def mw:List TUnit→Int→Int→Int→Int
  |[],_,_,n=>n
  |k::r,deep,most,n=>match ap most n with|true=>n|false=>mw r deep most (n+mj k (deep+1) (most-n))
end
theorem OK(u:TUnit)(deep most:Int):mj u deep most=match ap 20 deep with|true=>most+1|false=>mw u.kids deep most 1:=by
  obtain⟨a,b,c,d,e,f,g,h⟩:=u;rw[mj];rfl
mutual
theorem EI:∀(u:TUnit)(deep most:Int),0≤most→1≤mj u deep most∧mj u deep most≤most+1
  | ⟨_,_,_,_,_,_,_,kids⟩,deep,most,h=>by
    rw[mj]
    split
    · omega
    · exact EL kids deep most 1 (by omega) (by omega)
theorem EL:∀(l:List TUnit)(deep most n:Int),1≤n→n≤most+1→1≤mw l deep most n∧mw l deep most n≤most+1
  |[],_,_,n,h1,h2=>by grind[mw]
  | k::r,deep,most,n,h1,h2=>by
    rw[mw]
    split
    · omega
    · rename_i h
      have:=aM h
      have:=EI k (deep+1) (most-n) (by omega)
      exact EL r deep most _ (by omega) (by omega)
end
theorem RO:∀(u:TUnit),sy u→∀(deep most:Int),0≤deep→deep≤21→0≤most→most≤2^20→kP 127 [eU u,iV deep,iV most] (iV (mj u deep most)):=by
  refine TUnit.ind fun u ih hf deep most d1 d2 m1 m2=>?_
  obtain⟨f1,f2,f3,f4⟩:=qk.1 hf
  have rr0 b' (h:(mj u deep most)=b':=by rw[OK];simp only[mw,aS,ax,bS, *]):=h;exact bu Tryz.func127<|Ka 3 20 deep (fun _ _=>Kl 1 12 (Le.wr (x:=most+1) fW)<|Kf 0<|li<|rr0<|most+1) fun _ _=>K1 1 (.frz 0 [1,2,3,7,8]) ti<|KT aV u.kids (1:Int) [1,2,3,7,8] (fun a _ b=>([iV deep,iV most,AV.pptr [aw [iV u.act,iV u.item,iV u.n,iV u.kind,aj u.label,aW<|u.head.map aQ,aW<|u.words.map aQ,aW<|u.kids.map aV]] 0 0,iV b,nV a],[])) (fun a b=>(1:Int)≤b∧b≤most+(1:Int)∧mw u.kids deep most (1:Int)=mw a deep most b) oA (fun _ _ a _ _ _ b _=>Kl 3 16 (ln aV u.kids)<|Kh 1 b<|Mh b<|Mh b<|My b<|Kf 2<|li<|rr0 a) fun a _ b c _ d e f g i _ j _=>have j:=j.trans<|congrArg some<|aO d;Kl 3 16 (ln aV u.kids)<|Kt 1 i<|Kt 0 i<|Kt 0 i<|Ku 0 i<|Mn (ap most b) (fun i=>have:=aM i;Kx 3 j<|Kl 2 32 (Le.wr (x:=deep+1) fW)<|Kl 2 35 (Le.wr (x:=most-b) fW)<|Mp (ih d (by exact aN c g) (by exact f4 _ (aN c g)) (deep+1) (most-b) oA oA oA oA)<|have:=EI d (deep+1) (most-b) oA;Kl 0 37 (Le.wr (x:=b+mj d (deep+1) (most-b)) fW)<|Kl 2 24 (de a)<|Kf 0<|f (b+mj d (deep+1) (most-b))<|by(refine⟨by omega,by omega,?_⟩;first|rfl|grind[mw])) fun a=>have:=ar a;Kf 1<|li<|rr0 b
noncomputable def Gx(u:TUnit)(most:Int):Bool:=ax (ap most (mj u 0 most))&&ka u
theorem Tf(u:TUnit)(most:Int)(hf:sy u)(m1:0≤most)(m2:most≤2^20):kP 90 [eU u,iV most] (.bool (Gx u most)):=by
  have rr0 b' (h:(Gx u most)=b':=by simp only[Gx,aS,ax,bS, *]):=h;exact bu Tryz.func90<|Kp 3 (RO u hf 0 most oA oA m1 m2)<|Kn 2 (ap most<|mj u 0 most) (fun a=>Kt 0 (cW a)<|Mp (Nr u hf)<|MV (cW a)<|Kf 0<|cZ<|rr0<|ka u) fun a=>Mh (cQ a)<|My (cQ a)<|Ky 0<|rr0 false
noncomputable def wN(s:aP):Bool:=ax (ap 100 (.ofNat s.length))
noncomputable def wM(s:PStep):Bool:=ax (ap 100 (.ofNat s.label.length))
noncomputable def xn(x:PItem):Bool:=
  ax (ap 12 (.ofNat x.at_.length))&&ax (ap 12 (.ofNat x.to.length))&&ax (ap 300 (.ofNat x.old.length))&&ax (ap 300 (.ofNat x.new.length))&&ax (ap 100 (.ofNat x.label.length))&&ax (ap 100 (.ofNat x.for_.length))
  &&ax (ap 100 (.ofNat x.start.event.length))&&ax (ap 100 (.ofNat x.event.length))&&ax (ap 2 (.ofNat x.by_.length))&&Gx x.unit 30
noncomputable def GA(y:PItem):Bool:=ap 0 (.ofNat y.by_.length)&&ap 0 (.ofNat (gD y.by_ 0).by_.length)
mutual
noncomputable def mA:PItem→Bool
  |⟨k,a,t,w,nn,u,o,n,lb,fo,st,ac,it,dy,ev,by_⟩=>xn ⟨k,a,t,w,nn,u,o,n,lb,fo,st,ac,it,dy,ev,by_⟩&&(o.all wN&&(n.all wN&&(a.all wM&&(t.all wM&&Gk by_))))
noncomputable def Gk:List PItem→Bool
  |[]=>true
  |u::r=>(ax (GA u)&&mA u)&&Gk r
end
noncomputable def GR(y:PItem):Bool:=ax (GA y)&&mA y
theorem Gj:∀(l:List PItem),Gk l=l.all GR
  |[]=>by rw[Gk];rfl
  |u::r=>by rw[Gk,Gj r];rfl
theorem Dg(x:PItem):mA x=(xn x&&(x.old.all wN&&(x.new.all wN&&(x.at_.all wM&&(x.to.all wM&&x.by_.all GR))))):=by
  obtain⟨k,a,t,w,nn,u,o,n,lb,fo,st,ac,it,dy,ev,by_⟩:=x
  rw[mA,Gj];rfl
theorem Tg:∀(x:PItem),mO x→kP 53 [eI x] (.bool (mA x)):=by
  refine PItem.ind fun x ih hf=>?_
  obtain⟨f1,f2,f3,f4,f5,f6,f7⟩:=qw.1 hf
  have hu:kP 90 [eU x.unit,iV 30] (.bool (Gx x.unit 30)):=Tf x.unit 30 f6 (by omega) (by omega)
  have rr0 b' (h:(mA x)=b':=by rw[Dg,xn];simp only[GR,GA,wN,wM,aS,ax,bS, *]):=h;exact bu Tryz.func53<|Kl 4 10 (ln az x.at_)<|Ka 1 12 (Int.ofNat x.at_.length) (fun a _=>Mt a<|Mt a<|Mt a<|MV a<|Ky 17<|rr0 false) fun a _=>Kh 0 a<|Kh 0 a<|Kl 0 15 (ln az x.to)<|Mh a<|Kw 0 a<|Ka 0 12 (Int.ofNat x.to.length) (fun a _=>Mt a<|Mt a<|Mt a<|MV a<|Ky 15<|rr0 false) fun a _=>Kh 0 a<|Kh 0 a<|Kl 0 21 (ln mE x.old)<|Mh a<|Kw 0 a<|Ka 0 300 (Int.ofNat x.old.length) (fun a _=>Mt a<|Mt a<|Mt a<|MV a<|Ky 13<|rr0 false) fun a _=>Kh 0 a<|Kh 0 a<|Kl 0 27 (ln mE x.new)<|Mh a<|Kw 0 a<|Ka 0 300 (Int.ofNat x.new.length) (fun a _=>Mt a<|Mt a<|Mt a<|MV a<|Ky 11<|rr0 false) fun a _=>Kh 0 a<|Kh 0 a<|Kh 0 a<|Kw 0 a<|Ka 0 100 (Int.ofNat<|List.length x.label) (fun a _=>Mt a<|Mt a<|Mt a<|MV a<|Ky 9<|rr0 false) fun a _=>Kh 0 a<|Kh 0 a<|Kh 0 a<|Kw 0 a<|Ka 0 100 (Int.ofNat<|List.length x.for_) (fun a _=>Mt a<|Mt a<|Mt a<|Mt a<|MV a<|Ky 7<|rr0 false) fun a _=>Kh 0 a<|Kh 0 a<|Kh 0 a<|Kh 0 a<|Kw 0 a<|Ka 0 100 (Int.ofNat<|List.length x.start.event) (fun a _=>Mt a<|Mt a<|Mt a<|MV a<|Ky 5<|rr0 false) fun a _=>Kh 0 a<|Kh 0 a<|Kh 0 a<|Kw 0 a<|Ka 0 100 (Int.ofNat<|List.length x.event) (fun a _=>Mt a<|Mt a<|Mt a<|MV a<|Ky 3<|rr0 false) fun a _=>Kh 0 a<|Kh 0 a<|Kl 0 58 (ln MF x.by_)<|Mh a<|Kw 0 a<|Ka 0 2 (Int.ofNat x.by_.length) (fun a _=>Mt a<|Mt a<|Mt a<|MV a<|Ky 1<|rr0 false) fun a _=>Kh 0 a<|Kh 0 a<|Mp hu<|Mh a<|Kw 0 a<|Mn (Gx x.unit 30) (fun _=>Ky 0<|rr0 false) fun _=>K1 0 (.frz 0 [1,3]) ti<|uy mE x.old [1,3] (fun a _=>([AV.pptr [aw [iV x.kind,aW<|x.at_.map az,aW<|x.to.map az,iV x.where_,iV x.nth_,iV x.unit.act,iV x.unit.item,iV x.unit.n,iV x.unit.kind,aj x.unit.label,aW<|x.unit.head.map aQ,aW<|x.unit.words.map aQ,aW<|x.unit.kids.map aV,aW<|x.old.map mE,aW<|x.new.map mE,aj x.label,aj x.for_,iV x.start.kind,iV x.start.day,aj x.start.event,iV x.act,iV x.item,iV x.day,aj x.event,aW<|x.by_.map MF]] 0 0,nV a],[])) (fun a=>x.old.all wN=a.all wN) (by rfl) (fun _ _ _ _ _ a _=>Kl 3 70 (ln mE x.old)<|Kh 0 a<|Mg 0<|uy mE x.new [1,4] (fun a _=>([AV.pptr [aw [iV x.kind,aW<|x.at_.map az,aW<|x.to.map az,iV x.where_,iV x.nth_,iV x.unit.act,iV x.unit.item,iV x.unit.n,iV x.unit.kind,aj x.unit.label,aW<|x.unit.head.map aQ,aW<|x.unit.words.map aQ,aW<|x.unit.kids.map aV,aW<|x.old.map mE,aW<|x.new.map mE,aj x.label,aj x.for_,iV x.start.kind,iV x.start.day,aj x.start.event,iV x.act,iV x.item,iV x.day,aj x.event,aW<|x.by_.map MF]] 0 0,nV a],[])) (fun a=>x.new.all wN=a.all wN) (by rfl) (fun _ _ _ _ _ a _=>Kl 3 84 (ln mE x.new)<|Kh 0 a<|Mg 0<|uy az x.at_ [1,5] (fun a _=>([AV.pptr [aw [iV x.kind,aW<|x.at_.map az,aW<|x.to.map az,iV x.where_,iV x.nth_,iV x.unit.act,iV x.unit.item,iV x.unit.n,iV x.unit.kind,aj x.unit.label,aW<|x.unit.head.map aQ,aW<|x.unit.words.map aQ,aW<|x.unit.kids.map aV,aW<|x.old.map mE,aW<|x.new.map mE,aj x.label,aj x.for_,iV x.start.kind,iV x.start.day,aj x.start.event,iV x.act,iV x.item,iV x.day,aj x.event,aW<|x.by_.map MF]] 0 0,nV a],[])) (fun a=>x.at_.all wM=a.all wM) (by rfl) (fun _ _ _ _ _ a _=>Kl 3 98 (ln az x.at_)<|Kh 0 a<|Mg 0<|uy az x.to [1,6] (fun a _=>([AV.pptr [aw [iV x.kind,aW<|x.at_.map az,aW<|x.to.map az,iV x.where_,iV x.nth_,iV x.unit.act,iV x.unit.item,iV x.unit.n,iV x.unit.kind,aj x.unit.label,aW<|x.unit.head.map aQ,aW<|x.unit.words.map aQ,aW<|x.unit.kids.map aV,aW<|x.old.map mE,aW<|x.new.map mE,aj x.label,aj x.for_,iV x.start.kind,iV x.start.day,aj x.start.event,iV x.act,iV x.item,iV x.day,aj x.event,aW<|x.by_.map MF]] 0 0,nV a],[])) (fun a=>x.to.all wM=a.all wM) (by rfl) (fun _ _ _ _ _ a _=>Kl 3 113 (ln az x.to)<|Kh 0 a<|Mg 0<|uy MF x.by_ [1,7] (fun a _=>([AV.pptr [aw [iV x.kind,aW<|x.at_.map az,aW<|x.to.map az,iV x.where_,iV x.nth_,iV x.unit.act,iV x.unit.item,iV x.unit.n,iV x.unit.kind,aj x.unit.label,aW<|x.unit.head.map aQ,aW<|x.unit.words.map aQ,aW<|x.unit.kids.map aV,aW<|x.old.map mE,aW<|x.new.map mE,aj x.label,aj x.for_,iV x.start.kind,iV x.start.day,aj x.start.event,iV x.act,iV x.item,iV x.day,aj x.event,aW<|x.by_.map MF]] 0 0,nV a],[])) (fun a=>x.by_.all GR=a.all GR) (by rfl) (fun _ _ _ _ _ a _=>Kl 3 128 (ln MF x.by_)<|Kh 0 a<|Ky 0<|rr0 true) fun a _ b _ c d e f g _ i _=>have i:=i.trans<|congrArg some<|eZ c;Kl 3 128 (ln MF x.by_)<|Kt 0 g<|Kx 2 i<|Kl 2 138 (ln MF c.by_)<|Ka 1 0 (Int.ofNat c.by_.length) (fun g _=>Kt 0 g<|Kt 0 g<|Kt 0 g<|Mx i<|Mt g<|Kt 0 g<|Kt 0 g<|Mx ((aT MF (sA:0<(c.by_).length)).trans<|congrArg some<|eZ _)<|Mt g<|Kt 0 g<|Kt 0 g<|Kl 0 150 (ln MF (gD c.by_ 0).by_)<|Mt g<|Ku 0 g<|Ka 0 0 (Int.ofNat (gD c.by_ 0).by_.length) (fun a _=>Mt a<|Mt a<|Mt a<|Mt a<|Mt a<|Mt a<|MV a<|Ky 1<|rr0 false) fun g _=>Kh 0 g<|Kh 0 g<|Kh 0 g<|Mx i<|Mh g<|Kh 0 g<|Mp (ih c (by exact aN b f)<|by exact f7 _ (aN b f))<|Mh g<|Kw 0 g<|Mn (mA c) (fun _=>Kf 0<|cZ<|rr0 false) fun _=>Kl 1 131 (de a)<|Kf 0<|e<|by simp_all[GR,GA]) fun g _=>Mh g<|Mh g<|Mh g<|Mh g<|Mh g<|Mh g<|Mh g<|Mh g<|Mh g<|Mh g<|My g<|Kx 3 i<|Kp 0 (ih c (by exact aN b f)<|by exact f7 _ (aN b f))<|Kn 1 (mA c) (fun _=>Kf 0<|cZ<|rr0 false) fun _=>Kl 1 131 (de a)<|Kf 0<|e<|by simp_all[GR,GA]) fun a _ _ _ b c d _ e _ f _=>Kl 3 113 (ln az x.to)<|Kt 0 e<|Kx 2 f<|Ka 3 100 (Int.ofNat<|List.length b.label) (fun _ _=>Ky 0<|rr0 false) fun _ _=>Kl 1 116 (de a)<|Kf 0<|d<|by simp_all[wM]) fun a _ _ _ b c d _ e _ f _=>Kl 3 98 (ln az x.at_)<|Kt 0 e<|Kx 2 f<|Ka 3 100 (Int.ofNat<|List.length b.label) (fun _ _=>Ky 0<|rr0 false) fun _ _=>Kl 1 101 (de a)<|Kf 0<|d<|by simp_all[wM]) fun a _ _ _ b c d _ e _ f _=>Kl 3 84 (ln mE x.new)<|Kt 0 e<|Kx 2 f<|Ka 2 100 (Int.ofNat<|List.length b) (fun _ _=>Ky 0<|rr0 false) fun _ _=>Kl 1 87 (de a)<|Kf 0<|d<|by simp_all[wN]) fun a _ _ _ b c d _ e _ f _=>Kl 3 70 (ln mE x.old)<|Kt 0 e<|Kx 2 f<|Ka 2 100 (Int.ofNat<|List.length b) (fun _ _=>Ky 0<|rr0 false) fun _ _=>Kl 1 73 (de a)<|Kf 0<|d<|by simp_all[wN]

theorem Zi(l:aP)(g:Nat)(p:UInt8→Bool)(hp:∀s,s∈l→kP g [.int .u8 (.ofNat s.toNat)] (.bool (p s)))(hl:l.length<2^40):kP 335 [.ls (l.map nW),.func (.func g) [] []] (iV (co p l 0)):=by
  have rr0 b' (h:(co p l 0)=b':=by first|exact j7 zd0 hr0 hj0 ‹_› |exact hj0):=h;exact bu Tryz.func335<|Kl 2 7 (ln nW l)<|Mg 0<|uy nW l [0,1,7,8] (fun a _=>([aW<|l.map nW,bJ (bW g) [] [],nV<|List.length l,nV a],[])) (fun a=>co p l (0:Nat)=co p a (List.length l-a.length)) sA (fun _ _ zd0 _ hr0 a hj0=>Kh 0 a<|Kf 0<|li<|rr0 (-1)) fun a _ zd0 _ b c d hr0 e _ f hj0=>Kt 0 e<|Kx 4 f<|Kp 0 (hp b<|by exact aN zd0 hr0)<|Mb (p b) (fun _=>Kf 1<|li<|rr0<|Int.ofNat a) fun _=>Kl 0 18 (de a)<|Kf 0<|d<|by exact ie zd0 hr0 hj0 (by omega)
theorem Zs(l:aP)(g:Nat)(p:UInt8→Bool)(hp:∀s,s∈l→kP g [.int .u8 (.ofNat s.toNat)] (.bool (p s)))(hl:l.length<2^40):kP 325 [.ls (l.map nW),.func (.func g) [] []] (.bool (l.any p)):=by
  have h:=Zi l g p hp hl
  have rr0 b' (h:(List.any l p)=b':=by(rw[jY];simp only[aS,ax,bS,pV])):=h;exact bu Tryz.func325<|Kp 2 h<|Kf 1<|cZ<|rr0<|ax<|ap (co p l 0) 0
theorem Ns(c:UInt8):kP 324 [.int .u8 (.ofNat c.toNat)] (.bool (ax (Pr 33 126 c))):=by
  have rr0 b' (h:(ax (Pr 33 126 c))=b':=by(simp only[Pr,aS,ax,bS,pV, *])):=h;exact bu Tryz.func324<|Kb 3 (ap (Int.ofNat c.toNat) 33) (fun a=>Mt a<|MV a<|Ky 0<|rr0 true) fun a=>Kh 0 a<|Kw 0 a<|Kf 0<|cZ<|rr0<|ap 126<|Int.ofNat c.toNat
theorem Ro(s:aP)(hs:s.length≤2^39):kP 294 [.str s] (.bool (rj s)):=by
  have h:=Zs s 324 _ (fun c _=>Ns c) (by omega)
  have rr0 b' (h:(rj s)=b':=by first|(simp only[rj,aS,ax,bS, *];done)|(rw[rj,Qc,List.all_eq_not_any_not];simp only[DU,aS,ax,bS, *]at *)):=h;let q:=List.map nW s;exact bu Tryz.func294<|Kn 4 (dR s (ByteArray.mk #[]).data.toList) (fun a=>Kt 0 (cW a)<|Kt 0 (cW a)<|Ku 0 (cW a)<|Kn 0 (ap 24<|Int.ofNat<|List.length s) (fun a=>Kt 0 (cW a)<|Mv (TP (s:=s) (H:=ay []) (oA:(s).length≤2^40))<|Mt (cW a)<|Kt 0 (cW a)<|Mp (aI.onArgs (.cons (fw q _<|aX Us s)<|lc .nil) h:kP 325 [kL q false,bJ (bW 324) [] []] _)<|Mt (cW a)<|Ku 0 (cW a)<|Kf 0<|cZ<|rr0<|ax<|List.any s fun a=>ax<|Pr 33 126 a) fun a=>Mh (cQ a)<|Mh (cQ a)<|Mh (cQ a)<|Mh (cQ a)<|My (cQ a)<|Ky 0<|rr0 false) fun a=>Mh (cQ a)<|Mh (cQ a)<|My (cQ a)<|Ky 2<|rr0 false
theorem Zh(l:List aP)(g:Nat)(p:aP→Bool)(hp:∀s,s∈l→kP g [.str s] (.bool (p s)))(hl:l.length<2^40):kP 323 [.ls (l.map mE),.func (.func g) [] []] (iV (co p l 0)):=by
  have rr0 b' (h:(co p l 0)=b':=by first|exact j7 zd0 hr0 hj0 ‹_› |exact hj0):=h;exact bu Tryz.func323<|Kl 2 7 (ln mE l)<|Mg 0<|uy mE l [0,1,7,8] (fun a _=>([aW<|l.map mE,bJ (bW g) [] [],nV l.length,nV a],[])) (fun a=>co p l (0:Nat)=co p a (l.length-a.length)) sA (fun _ _ zd0 _ hr0 a hj0=>Kh 0 a<|Kf 0<|li<|rr0 (-1)) fun a _ zd0 _ b c d hr0 e _ f hj0=>Kt 0 e<|Kx 4 f<|Kp 0 (hp b<|by exact aN zd0 hr0)<|Mb (p b) (fun _=>Kf 1<|li<|rr0<|Int.ofNat a) fun _=>Kl 0 18 (de a)<|Kf 0<|d<|by exact ie zd0 hr0 hj0 (by omega)
theorem Zr(l:List aP)(g:Nat)(p:aP→Bool)(hp:∀s,s∈l→kP g [.str s] (.bool (p s)))(hl:l.length<2^40):kP 292 [.ls (l.map mE),.func (.func g) [] []] (.bool (l.any p)):=by
  have h:=Zh l g p hp hl
  have rr0 b' (h:(l.any p)=b':=by(rw[jY];simp only[aS,ax,bS,pV])):=h;exact bu Tryz.func292<|Kp 2 h<|Kf 1<|cZ<|rr0<|ax<|ap (co p l 0) 0
theorem K9(s:aP)(hs:s.length≤2^39):kP 293 [.str s] (.bool (ax (rj s))):=by
  exact bu Tryz.func293<|Kp 1 (Ro s hs)<|Kf 1<|ba<|eP<|ax<|rj s
theorem Jg(l:List aP)(hl:l.length<2^40)(hs:∀s,s∈l→s.length≤2^39):kP 255 [.ls (l.map mE)] (.bool (pO l)):=by
  have h:=Zr l 293 _ (fun s m=>K9 s (hs s m)) hl
  have rr0 b' (h:(pO l)=b':=by first|(simp only[pO,aS,ax,bS, *];done)|(rw[pO,List.all_eq_not_any_not];simp only[aS,ax,bS, *])):=h;exact bu Tryz.func255<|Kl 2 4 (ln mE l)<|Kn 1 (ap 256<|Int.ofNat l.length) (fun a=>Kt 0 (cW a)<|Mp h<|Mt (cW a)<|Ku 0 (cW a)<|Kf 0<|cZ<|rr0<|ax<|l.any fun a=>ax<|rj a) fun a=>Mh (cQ a)<|Mh (cQ a)<|My (cQ a)<|Ky 0<|rr0 false
theorem Oi(r:Int):kP 266 [.int .i32 r] (.bool (ap r 48||ap 57 r)):=by
  have rr0 b' (h:(ap r 48||ap 57 r)=b':=by(simp only[aS,ax,bS, *])):=h;exact bu Tryz.func266<|Kb 3 (ap r 48) (fun a=>Mt a<|MV a<|Ky 0<|rr0 true) fun a=>Kh 0 a<|Kw 0 a<|Kf 0<|cZ<|rr0<|ap 57 r
theorem Sb(r:Int):kP 208 [.int .i32 r] (.bool (ap r 65||ap 90 r)):=by
  have rr0 b' (h:(ap r 65||ap 90 r)=b':=by(simp only[aS,ax,bS, *])):=h;exact bu Tryz.func208<|Kb 3 (ap r 65) (fun a=>Mt a<|MV a<|Ky 0<|rr0 true) fun a=>Kh 0 a<|Kw 0 a<|Kf 0<|cZ<|rr0<|ap 90 r
theorem G9(s:PStep):kP 95 [az s] (.bool (ab s.kind 0&&dR s.label [])):=by
  have rr0 b' (h:(ab s.kind 0&&dR s.label [])=b':=by(simp only[aS,ax,bS, *];first|done|rfl)):=h;exact bu Tryz.func95<|Kb 5 (ab s.kind 0) (fun a=>Kt 0 a<|Kt 0 a<|Ku 0 a<|Kf 0<|cZ<|rr0<|dR s.label (ByteArray.mk #[]).data.toList) fun a=>Mh a<|Mh a<|My a<|Ky 0<|rr0 false
theorem uc(n a b:Int):kP 197 [iV n,iV a,iV b] (.bool (ax (ap n a)&&ax (ap b n))):=by
  have rr0 b' (h:(ax (ap n a)&&ax (ap b n))=b':=by(simp only[aS,ax,bS, *])):=h;exact bu Tryz.func197<|Kn 4 (ap n a) (fun c=>Kt 0 (cW c)<|Kt 0 (cW c)<|Ku 0 (cW c)<|Kf 0<|cZ<|rr0<|ax<|ap b n) fun c=>Mh (cQ c)<|Mh (cQ c)<|My (cQ c)<|Ky 0<|rr0 false
theorem PA(s:aP):kP 265 [.str s,.func (.func 266) [] []] (iV (bif Nat.beq (eX kW s) s.length then -1 else Int.ofNat (eX kW s))):=
  zj gF (Go.Proofs.enters_of Go.Proofs.Tryz.lidxf.f15 (by kernel_rfl) rfl) (Go.Proofs.enters_of Tryz.func266 (by kernel_rfl) rfl)
    (fun s w hp=>Go.Proofs.Any.strings_IndexFunc_grows Go.Proofs.Tryz.lidxf 266 #[] (Go.Proofs.enters_of Tryz.func266 (by kernel_rfl) rfl) _ s w hp) Oi (fun _=>rfl) (GI (lo:=48) (hi:=57) (by omega)) s
theorem PB(s:aP)(h:By (Nat.beq (eX kW s) s.length) true):kP 265 [.str s,.func (.func 266) [] []] (iV (-1)):=by
  have:=PA s
  simp_all
theorem TQ(s:aP)(h:By (Nat.beq (eX kW s) s.length) false):kP 265 [.str s,.func (.func 266) [] []] (nV (eX kW s)):=by
  have:=PA s
  grind
theorem Y2(s:aP):kP 209 [.str s,.func (.func 208) [] []] (.bool (ax (s.all Wb))):=
  uZ gF (Go.Proofs.enters_of Go.Proofs.Tryz.lconf.f17 (by kernel_rfl) rfl) (Go.Proofs.enters_of Tryz.func208 (by kernel_rfl) rfl)
    (fun s w hp=>Go.Proofs.Any.strings_ContainsFunc_grows Go.Proofs.Tryz.lconf 208 #[] (Go.Proofs.enters_of Tryz.func208 (by kernel_rfl) rfl) _ s w hp) Sb (fun _=>rfl) (GI (lo:=65) (hi:=90) (by omega)) s
theorem Li(s:aP)(hs:s.length≤2^39):kP 207 [.str s] (.tuple [.str (s.take (eX kW s)),.str (s.drop (eX kW s))]):=by
  have hl:=Jb (p:=kW) (s:=s)
  have rr0 b' (h:(s.take (eX kW s))=b':=by(rw[pU h0];simp)):=h;have rr1 b' (h:(s.drop (eX kW s))=b':=by(rw[pU h0];simp)):=h;let q:=AHeap.mk 1000000 Tr.nil;exact bu Tryz.func207<|Ks 2 ((eX kW s).beq<|List.length s) (fun h0=>Mp (PB s h0)<|Kf 6<|ch<|.cons (Le.str<|rr0 s)<|.cons (Le.str<|rr1 []) .nil) fun h0=>Mp (TQ s h0)<|Kv 5 (U1 (s:=s) (n:=eX kW s) (k:=IntKind.i64) (H:=q) oA)<|Kv 1 (U0 (s:=s) (l:=eX kW s) (k:=IntKind.i64) (H:=q) oA)<|Kf 1<|ba<|cV [aj<|s.take<|eX kW s,aj<|s.drop<|eX kW s]
theorem tw(s:aP)(hs:s.length≤2^39):kP 142 [.str s] (.bool (j5 s)):=by
  have hd:(s.drop (eX kW s)).length≤2^39:=by grind
  have rr0 b' (h:(j5 s)=b':=by first|(simp only[j5,aS,ax,bS,pV, *];done)|(simp only[j5,aS,ax,bS,pV, *];rfl)|(unfold j5;simp only[h0,h1,h2];rfl)):=h;exact bu Tryz.func142<|Kp 1 (Li s hs)<|Kd 9 (Int.ofNat (s.take<|eX kW s).length) 1 (fun h0 _=>Kt 0 (cW h0)<|Kt 0 (cW h0)<|Ku 0 (cW h0)<|Kd 0 4 (Int.ofNat (s.take<|eX kW s).length) (fun h1 _=>Kt 0 (cW h1)<|M1 (.chr<|gD (s.take<|eX kW s) 0) (yE (gR:0<(s.take (eX kW s)).length))<|Mt (cW h1)<|Ku 0 (cW h1)<|Kc 0 (Int.ofNat (gD (s.take<|eX kW s) 0).toNat) 48 (fun h2 _=>Kt 0 (cW h2)<|Kt 0 (cW h2)<|Ku 0 (cW h2)<|Kd 0 3 (Int.ofNat (s.drop<|eX kW s).length) (fun a _=>Kt 0 (cW a)<|Kt 0 (cW a)<|Mp (Y2<|s.drop<|eX kW s)<|Mt (cW a)<|Ku 0 (cW a)<|Kf 0<|cZ<|rr0<|ax<|ax<|(s.drop<|eX kW s).all Wb) fun a _=>Mh (cQ a)<|Mh (cQ a)<|Mh (cQ a)<|My (cQ a)<|Ky 0<|rr0 false) fun h2 _=>Mh (cQ h2)<|Mh (cQ h2)<|My (cQ h2)<|Ky 2<|rr0 false) fun h1 _=>Mh (cQ h1)<|Mh (cQ h1)<|My (cQ h1)<|Ky 4<|rr0 false) fun h0 _=>Mh (cQ h0)<|Mh (cQ h0)<|My (cQ h0)<|Ky 6<|rr0 false
theorem uj(p:List PStep)(hl:p.length<2^40)(hs:∀s,s∈p→s.label.length≤2^39):kP 94 [.ls (p.map az)] (.bool (ky p)):=by
  have rr0 b' (h:(ky p)=b':=by first|(rw[ky,hj0,UX];rfl)|(rw[ky,DS zd0 hr0 hj0];simp only[mN,sI,‹ab (Int.ofNat zi0) 0=_›,cond_true,cond_false];simp only[DU,aS,ax,bS, *];first|done|rfl)):=h;exact bu Tryz.func94<|Kl 2 6 (ln az p)<|Mg 0<|uy az p [0,5,6,7] (fun a _=>([aW<|p.map az,aW<|p.map az,nV p.length,nV a],[])) (fun a=>Nq p=G8 p a) (by(exact NU)) (fun zi0 _ zd0 _ hr0 a hj0=>Kh 0 a<|Kl 1 34 (ln az p)<|Kf 1<|cZ<|rr0<|ax<|ap 9<|Int.ofNat p.length) fun zi0 _ zd0 _ a b c hr0 d _ e hj0=>Kt 0 d<|Kx 0 e<|Kj 6 (Int.ofNat zi0) 0 (fun d _=>Kt 0 d<|Mp (G9 a)<|MV d<|Mb (ab a.kind 0&&dR a.label []) (fun _=>Kl 0 32 (de zi0)<|K1 0 (.frz 0 [0,5,6,7]) ti<|Mf<|c<|by(rw[DS zd0 hr0 hj0];simp only[mN,sI,‹ab (Int.ofNat zi0) 0=_›,cond_true,cond_false];simp only[DU,aS,ax,bS, *];first|done|rfl)) fun _=>Kd 3 0 a.kind (fun a _=>Mt (cW a)<|Mt (cW a)<|MV (cW a)<|Ky 3<|rr0 false) fun d _=>Kh 0 (cQ d)<|Kh 0 (cQ d)<|Kw 0 (cQ d)<|Ka 0 7 a.kind (fun a _=>Mt a<|Mt a<|Mt a<|MV a<|Ky 1<|rr0 false) fun d _=>Kh 0 d<|Kh 0 d<|Mp (tw a.label<|by exact hs _ (aN zd0 hr0))<|Mh d<|Kw 0 d<|Mn (j5 a.label) (fun _=>Kf 0<|cZ<|rr0 false) fun _=>Kl 0 32 (de zi0)<|K1 0 (.frz 0 [0,5,6,7]) ti<|Mf<|c<|by(rw[DS zd0 hr0 hj0];simp only[mN,sI,‹ab (Int.ofNat zi0) 0=_›,cond_true,cond_false];simp only[DU,aS,ax,bS, *];first|done|rfl)) fun d _=>Mh d<|My d<|Kd 4 0 a.kind (fun a _=>Mt (cW a)<|Mt (cW a)<|MV (cW a)<|Ky 3<|rr0 false) fun d _=>Kh 0 (cQ d)<|Kh 0 (cQ d)<|Kw 0 (cQ d)<|Ka 0 7 a.kind (fun a _=>Mt a<|Mt a<|Mt a<|MV a<|Ky 1<|rr0 false) fun d _=>Kh 0 d<|Kh 0 d<|Mp (tw a.label<|by exact hs _ (aN zd0 hr0))<|Mh d<|Kw 0 d<|Mn (j5 a.label) (fun _=>Kf 0<|cZ<|rr0 false) fun _=>Kl 0 32 (de zi0)<|K1 0 (.frz 0 [0,5,6,7]) ti<|Mf<|c<|by(rw[DS zd0 hr0 hj0];simp only[mN,sI,‹ab (Int.ofNat zi0) 0=_›,cond_true,cond_false];simp only[DU,aS,ax,bS, *];first|done|rfl)
theorem S9(l:List Int)(v:Int)(hl:l.length<2^40):kP 315 [.ls (l.map bK),iV v] (iV (co (ab v) l 0)):=by
  have rr0 b' (h:(co (ab v) l 0)=b':=by first|exact j7 zd0 hr0 hj0 ‹_› |exact hj0):=h;exact bu Tryz.func315<|Kl 2 7 (ln bK l)<|Mg 0<|uy bK l [0,1,7,8] (fun a _=>([aW<|l.map bK,iV v,nV l.length,nV a],[])) (fun a=>co (ab v) l (0:Nat)=co (ab v) a (l.length-a.length)) sA (fun _ _ zd0 _ hr0 a hj0=>Kh 0 a<|Kf 0<|li<|rr0 (-1)) fun a _ zd0 _ b c d hr0 e _ f hj0=>Kt 0 e<|Kx 4 f<|Kj 1 v b (fun _ _=>Kf 1<|li<|rr0<|Int.ofNat a) fun _ _=>Kl 0 18 (de a)<|Kf 0<|d<|by exact ie zd0 hr0 hj0 (by omega)
theorem qT(l:List Int)(v:Int)(hl:l.length<2^40):kP 284 [.ls (l.map bK),iV v] (.bool (l.any (ab v))):=by
  have h:=S9 l v hl
  have rr0 b' (h:(l.any (ab v))=b':=by(rw[jY];simp only[aS,ax,bS,pV])):=h;exact bu Tryz.func284<|Kp 2 h<|Kf 1<|cZ<|rr0<|ax<|ap (co (ab v) l 0) 0
theorem Pu(v:Int):kP 315 [.nils,iV v] (iV (-1)):=by
  let q:=[aa,iV v,iV 0,iV 0];exact bu Tryz.func315<|Mg 3<|WF [0,1,7,8] (q,[]) True 0 ti fun _ _=>Kf 2<|ba<|iV (-1)
theorem GF(v:Int):kP 284 [.nils,iV v] (.bool false):=by
  have h:=Pu v
  exact bu Tryz.func284<|Kp 2 h<|Kf 1<|ba<|eP false
theorem Zc:kP 332 [iV 0] (.str (cN 0)):=by
  exact wk Tryz.func332 (.go 11 .fin)<|ba<|aj [98,111,111,107]
theorem Zb:kP 332 [iV 1] (.str (cN 1)):=by
  exact wk Tryz.func332 (.go 11 .fin)<|ba<|aj [112,97,114,116]
theorem Za:kP 332 [iV 2] (.str (cN 2)):=by
  exact wk Tryz.func332 (.go 11 .fin)<|ba<|aj [115,101,99,116,105,111,110]
theorem Zy:kP 332 [iV 3] (.str (cN 3)):=by
  exact wk Tryz.func332 (.go 11 .fin)<|ba<|aj [112,97,114,97,103,114,97,112,104]
theorem Zv:kP 332 [iV 4] (.str (cN 4)):=by
  exact wk Tryz.func332 (.go 11 .fin)<|ba<|aj [116,97,98,108,101]
theorem Zw:kP 332 [iV 5] (.str (cN 5)):=by
  exact wk Tryz.func332 (.go 11 .fin)<|ba<|aj [114,111,119]
theorem Zk:kP 332 [iV 6] (.str (cN 6)):=by
  exact wk Tryz.func332 (.go 11 .fin)<|ba<|aj [99,101,108,108]
theorem Zj:kP 332 [iV 7] (.str (cN 7)):=by
  exact wk Tryz.func332 (.go 11 .fin)<|ba<|aj [110,111,116,101]
theorem Zx(k:Int)(h:k<0∨7<k):kP 332 [iV k] (.str (cN k)):=by
  rw[H8 h]
  have c:ap k 0=true∨(ap k 0=false∧ap k 8=false):=by
    grind[nQ,lr]
  rcases c with c|⟨c,d⟩
  · exact bu Tryz.func332<|Kt 3 c<|Mt c<|MV c<|Kf 1<|ba<|aj []
  · exact bu Tryz.func332<|Kh 3 c<|Kh 0 c<|Kw 0 c<|Mt (cW d)<|Kf 0<|ba<|aj []
theorem wV(k:Int):kP 332 [iV k] (.str (cN k)):=by
  by_cases h:k<0∨7<k
  · grind[Zx]
  · grind[Zc,Zb,Za,Zy,Zv,Zw,Zk,Zj]
theorem Zt(p k:Int)(h:p<0∨7<p):kP 235 [iV p,iV k] (.bool (i9 p k)):=by
  unfold i9
  rw[Hc h]
  have c:ap p 0=true∨(ap p 0=false∧ap p 8=false):=by
    grind[nQ,lr]
  rcases c with c|⟨c,d⟩
  · exact bu Tryz.func235<|Kh 3 (cQ c)<|Mh (cQ c)<|My (cQ c)<|Kf 2<|ba<|eP false
  · exact bu Tryz.func235<|Kt 3 (cW c)<|Kt 0 (cW c)<|Ku 0 (cW c)<|Kh 0 d<|Mh d<|Mh d<|Mh d<|Mh d<|My d<|Kf 0<|ba<|eP false
theorem ZG(k:Int):kP 235 [iV 0,iV k] (.bool (i9 0 k)):=by
  have h:=qT [1,2] k (by grind)
  let q:=[iV 1,iV 2];exact bu Tryz.func235<|Kp 11 (aI.onArgs (.cons (fw q _<|by rfl)<|lc .nil) h:kP 284 [kL q false,iV k] _)<|Kf 1<|ba<|eP<|[1,2].any<|ab k
theorem ZF(k:Int):kP 235 [iV 1,iV k] (.bool (i9 1 k)):=by
  have h:=qT [2] k (by grind)
  let q:=[iV 2];exact bu Tryz.func235<|Kp 11 (aI.onArgs (.cons (fw q _<|by rfl)<|lc .nil) h:kP 284 [kL q false,iV k] _)<|Kf 1<|ba<|eP<|[2].any<|ab k
theorem ZE(k:Int):kP 235 [iV 2,iV k] (.bool (i9 2 k)):=by
  have h:=qT [3,4,7] k (by grind)
  let q:=[iV 3,iV 4,iV 7];exact bu Tryz.func235<|Kp 11 (aI.onArgs (.cons (fw q _<|by rfl)<|lc .nil) h:kP 284 [kL q false,iV k] _)<|Kf 1<|ba<|eP<|[3,4,7].any<|ab k
theorem ZD(k:Int):kP 235 [iV 3,iV k] (.bool (i9 3 k)):=by
  have h:=qT [3,4,7] k (by grind)
  let q:=[iV 3,iV 4,iV 7];exact bu Tryz.func235<|Kp 11 (aI.onArgs (.cons (fw q _<|by rfl)<|lc .nil) h:kP 284 [kL q false,iV k] _)<|Kf 1<|ba<|eP<|[3,4,7].any<|ab k
theorem ZC(k:Int):kP 235 [iV 4,iV k] (.bool (i9 4 k)):=by
  have h:=qT [5] k (by grind)
  let q:=[iV 5];exact bu Tryz.func235<|Kp 11 (aI.onArgs (.cons (fw q _<|by rfl)<|lc .nil) h:kP 284 [kL q false,iV k] _)<|Kf 1<|ba<|eP<|[5].any<|ab k
theorem ZB(k:Int):kP 235 [iV 5,iV k] (.bool (i9 5 k)):=by
  have h:=qT [6] k (by grind)
  let q:=[iV 6];exact bu Tryz.func235<|Kp 11 (aI.onArgs (.cons (fw q _<|by rfl)<|lc .nil) h:kP 284 [kL q false,iV k] _)<|Kf 1<|ba<|eP<|[6].any<|ab k
theorem ZA(k:Int):kP 235 [iV 6,iV k] (.bool (i9 6 k)):=by
  have h:=GF k
  exact bu Tryz.func235<|Kp 11 h<|Kf 1<|ba<|eP false
theorem Zu(k:Int):kP 235 [iV 7,iV k] (.bool (i9 7 k)):=by
  have h:=GF k
  exact bu Tryz.func235<|Kp 11 h<|Kf 1<|ba<|eP false
theorem yL(p k:Int):kP 235 [iV p,iV k] (.bool (i9 p k)):=by
  by_cases h:p<0∨7<p
  · grind[Zt]
  · grind[ZG,ZF,ZE,ZD,ZC,ZB,ZA,Zu]
theorem aC{n b m:Nat}(h1:n≤m)(h2:m≤2^40)(h3:m*b≤2^40):small n b=true:=by
  unfold small
  have h4:n*b≤m*b:=eb b h1
  grind[Nat.ble_eq_true_of_le]
noncomputable abbrev vG(u:TUnit):AObj:=.row 8 false 0 [eU u]
def Hw(p:PId)(u:TUnit)(x0:Nat×List TUnit×Unit):Prop:=(u.kids).drop x0.1=x0.2.1∧cY p u.kids=cY p x0.2.1
noncomputable def xR(p:PId)(u:TUnit)(x0:Nat×List TUnit×Unit):List AV×List AObj:=([AV.ptr 0 0 0 0,AV.ptr 1 0 0 0,AV.ls (u.kids.map aV),nV u.kids.length,nV x0.1],[AObj.row 8 false 0 [AV.agg [iV u.act,iV u.item,iV u.n,iV u.kind,AV.str u.label,AV.ls (u.head.map aQ),AV.ls (u.words.map aQ),AV.ls (u.kids.map aV)]],AObj.row 3 false 0 [AV.agg [iV p.a,iV p.i,iV p.n]]])
theorem Ei(p:PId):∀(u:TUnit),nU u≤2^20→(cX p u=false→kP 140 [eU u,aK p] .nils)∧(cX p u=true→kP 140 [eU u,aK p] (.ps ((aA p u).map aV) false)):=by
  refine TUnit.ind fun u ih hn=>?_
  have ihn:∀k,k∈u.kids→By (cX p k) false→kP 140 [eU k,aK p] .nils:=fun k hk h=>(ih k hk (bN (sn (ib hk)) hn)).1 h
  have ihy:∀k,k∈u.kids→By (cX p k) true→kP 140 [eU k,aK p] (.ps ((aA p k).map aV) false):=fun k hk h=>(ih k hk (bN (sn (ib hk)) hn)).2 h
  have hkl:=bd u
  refine⟨fun hs=>?_,fun hs=>?_⟩
  · let q:=[aw [iV u.act,iV u.item,iV u.n,iV u.kind,aj u.label,aW (u.head.map aQ),aW (u.words.map aQ),aW (u.kids.map aV)]];let q3:=[iV p.a,iV p.i,iV p.n];exact bu Tryz.func140<|Kv 5 (lX ((Tryz.prog).underlying 25) u.act u.item u.n p.a p.i p.n<|ay [aZ 8 false 0 q,aZ 3 false 0 [aw q3]])<|Mb (ab u.act p.a&&(ab u.item p.i&&ab u.n p.n)) (fun _=>Kf 2<|fX (by exact absurd (hs.symm.trans (Da ‹_›)) (by grind):(AV.nils)=(AV.ps q true))) fun _=>Kl 2 16 (ln aV u.kids)<|Mg 0<|Uj (0:Nat) u.kids () [2,3,15,16,17] (fun a _ _=>([bY 0 0 0 0,bY 1 0 0 0,aW<|u.kids.map aV,nV u.kids.length,nV a],[aZ 8 false 0 [aw [iV u.act,iV u.item,iV u.n,iV u.kind,aj u.label,aW<|u.head.map aQ,aW<|u.words.map aQ,aW<|u.kids.map aV]],aZ 3 false 0 [aw [iV p.a,iV p.i,iV p.n]]])) (fun a b _=>(u.kids).drop a=b∧cY p u.kids=cY p b) (fun _ a _=>a.length) (et rfl<|by rfl) fun a b c d e=>Mc b (fun a=>have b:=gn d.1 a;have:=jv (J:=fun a _=>cY p u.kids=cY p a) (a:=c) a d.2;Kh 0 b<|Kf 0<|ba aa) fun b f g=>let i:=List.map aV<|[u]++aA p b;have j:=gp d.1 g;have:=ar j;have l:=(gm (enc:=aV) d.1 g).trans<|congrArg some<|aO b;have c:=cH (J:=fun a _=>cY p u.kids=cY p a) (a:=c) g d.2;have:nU b<nU u:=ib<|aN d.1 g;have:(aA p b).length≤nU b:=lD b;Kt 0 j<|Mx l<|Ks 4 (cX p b) (fun a=>Mp (ihy b (by exact aN d.1 g) a)<|Mg 6<|M2 .apl (et (by simp_all[kH]:List.map aV (aA p b)≠[])<|gj (sz:=8) (f:=aV) (fun _=>by(rw[aO];rfl))<|aA p b) (et (by(refine aC (m:=2^21) ?_ ?_ ?_<;>(try simp only[lM,lC,lN])<;>(have:=lD (p:=p) b;omega)):small (([AV.agg [iV u.act,iV u.item,iV u.n,iV u.kind,AV.str u.label,AV.ls (u.head.map aQ),AV.ls (u.words.map aQ),AV.ls (u.kids.map aV)]]).length+((aA p b).map aV).length) 120=true) rt)<|M1 (.obj 3<|aZ 8 true 0 i) (congrArg (aZ 8 true 0) (by(simp only[pn,ej,vf,aO,eZ]<;>rfl):[AV.agg [iV u.act,iV u.item,iV u.n,iV u.kind,AV.str u.label,AV.ls (u.head.map aQ),AV.ls (u.words.map aQ),AV.ls (u.kids.map aV)]]++List.map aV (aA p b)=List.map aV ([u]++aA p b)))<|Mg 0<|M2 (.fsl 0 [] 4 i) ti (cn (aU 0) (tA aV ([u]++aA p b) (q++List.map aV (aA p b)).length (sA:([u]++aA p b).length=([AV.agg [iV u.act,iV u.item,iV u.n,iV u.kind,AV.str u.label,AV.ls (u.head.map aQ),AV.ls (u.words.map aQ),AV.ls (u.kids.map aV)]]++List.map aV (aA p b)).length))<|aX gN<|[u]++aA p b)<|Ml 4 (fw i false<|aX gN<|[u]++aA p b)<|Mf<|fX (by exact absurd (hs.symm.trans (TV (by assumption) c (by omega))) (by grind):(AV.nils)=(AV.ls i))) fun c=>Mp (ihn b (by exact aN d.1 g) c)<|Kl 4 30 (de a)<|K1 0 (.frz 2 [2,3,15,16,17]) (cn rt rt ti)<|Mf<|e (a+1) f () (et (b7 d.1 g)<|by grind[iE])<|fF g
  · have rr0:∀b',(h:((aA p u).map aV)=b':=by first|rfl|exact absurd (hs.symm.trans (F0 (by assumption) hj0)) (by decide)|(rw[qo (by assumption),ej,aO];rfl)|(rw[I7 (by assumption) hj0 (by assumption)];rfl))→((aA p u).map aV)=b':=(fun _ h=>h);let q:=[aw [iV u.act,iV u.item,iV u.n,iV u.kind,aj u.label,aW (u.head.map aQ),aW (u.words.map aQ),aW (u.kids.map aV)]];let q3:=[iV p.a,iV p.i,iV p.n];exact bu (hv:=(aX gN (aA p u))) Tryz.func140 (Kv 5 (DR (d:=(Tryz.prog).underlying 25) (n:=3) (l:=(0,1)::(1,1)::(2,1)::[]) (xs:=[iV u.act,iV u.item,iV u.n]) (ys:=q3) (H:=ay [aZ 8 false 0 q,aZ 3 false 0 [aw q3]]) rfl (pw (e:=ab u.act p.a) rfl rfl rfl (pw (e:=ab u.item p.i) rfl rfl rfl (CY (e:=ab u.n p.n) rfl rfl rfl rfl)))) (Mb (ab u.act p.a&&(ab u.item p.i&&ab u.n p.n)) (fun h0=>Kf 2 ((Rd (rr0 q)):Le _ (kL q true))) (fun h0=>Kl 2 16 (Le.len (f:=aV) (l:=u.kids)) (Mg 0 (ML (Nat×List TUnit×Unit) [2,3,15,16,17] (xR p u) (Hw p u) (fun x=>x.2.1.length) (0,u.kids,()) (aU ((xR p u) (0,u.kids,()))) (et (rfl:List.drop 0 (u.kids)=u.kids) (by rfl:(cY p u.kids=cY p u.kids))) (fun x0 hx0 nx0=>Mc x0.2.1 (fun hr0=>have lt0:=gn hx0.1 hr0;have hj0:=jv (J:=fun r x=>cY p u.kids=cY p r) (a:=x0.2.2) hr0 hx0.2;(Kh 0 lt0 (Kf 0 (fX (by exact absurd (hs.symm.trans (F0 (by assumption) hj0)) (by grind):(AV.ps ((aA p u).map aV) false)=(AV.nils)))))) (fun w0 r0 hr0=>let q2:=List.map aV ([u]++aA p w0);have lt0:=gp hx0.1 hr0;have glt0:=ar lt0;have nt0:=(gm (enc:=aV) hx0.1 hr0).trans (congrArg some (aO w0));have hj0:=cH (J:=fun r x=>cY p u.kids=cY p r) (a:=x0.2.2) hr0 hx0.2;have q0:nU w0<nU u:=ib (aN hx0.1 hr0);have q1:(aA p w0).length≤nU w0:=lD w0;(Kt 0 lt0 (Mx nt0 (Ks 4 (cX p w0) (fun h2=>Mp (ihy w0 (by exact aN hx0.1 hr0) h2) (Mg 6 (M2 .apl (et (by simp_all[kH]:List.map aV (aA p w0)≠[]) (gj (sz:=8) (f:=aV) (fun _=>by(rw[aO];rfl)) (aA p w0))) (et (by(refine aC (m:=2^21) ?_ ?_ ?_<;>(try simp only[lM,lC,lN])<;>(have:=lD (p:=p) w0;omega)):small (([AV.agg [iV u.act,iV u.item,iV u.n,iV u.kind,AV.str u.label,AV.ls (u.head.map aQ),AV.ls (u.words.map aQ),AV.ls (u.kids.map aV)]]).length+((aA p w0).map aV).length) 120=true) rt) (M1 (.obj 3 (aZ 8 true 0 q2)) (congrArg (aZ 8 true 0) (by(simp only[pn,ej,vf,aO,eZ]<;>rfl):[AV.agg [iV u.act,iV u.item,iV u.n,iV u.kind,AV.str u.label,AV.ls (u.head.map aQ),AV.ls (u.words.map aQ),AV.ls (u.kids.map aV)]]++List.map aV (aA p w0)=List.map aV ([u]++aA p w0))) (Mg 0 (M2 (.fsl 0 [] 4 q2) ti (cn (aU (0)) (JV (f:=aV) (l:=[u]++aA p w0) (n:=(q++List.map aV (aA p w0)).length) (by simp_all:([u]++aA p w0).length=([AV.agg [iV u.act,iV u.item,iV u.n,iV u.kind,AV.str u.label,AV.ls (u.head.map aQ),AV.ls (u.words.map aQ),AV.ls (u.kids.map aV)]]++List.map aV (aA p w0)).length)) (aX gN ([u]++aA p w0))) (Mf ((Rd (rr0 q2)):Le _ (kL q2 false))))))))) (fun h2=>Mp (ihn w0 (by exact aN hx0.1 hr0) h2) (Kl 4 30 (Le.wr (x:=Int.ofNat x0.1+1) fW) (K1 0 (.frz 2 [2,3,15,16,17]) (cn rt rt ti) (Mf (nx0 (x0.1+1,r0,()) (et (b7 hx0.1 hr0) (by grind[iE]:(cY p u.kids=cY p r0))) (fF hr0))))))))))))))))
theorem I8(p:PId)(u:TUnit)(h:By (cX p u) false)(hn:nU u≤2^20):kP 140 [eU u,aK p] .nils:=(Ei p u hn).1 h
theorem Eh(p:PId)(u:TUnit)(h:By (cX p u) true)(hn:nU u≤2^20):kP 140 [eU u,aK p] (.ps ((aA p u).map aV) false):=(Ei p u hn).2 h
theorem QI:kP 206 [.nils] .nils:=by
  exact wk Tryz.func206 (.go 4 .fin)<|ba aa
theorem QH:kP 206 [.ps [] false] (.ps [] true):=by
  exact wk Tryz.func206 (.go 7 .fin)<|ba<|kL [] true
theorem QL(w:PWord)(r:List PWord)(hl:r.length<2^30):kP 206 [.ls ((w::r).map aQ)] (.ls ((w::r).map aQ)):=by
  let q:=List.map aQ (w::r);exact bu Tryz.func206<|Mg 1<|Mz 3 (fun(a:((w::r).map aQ:List AV)=[])=>Mw .abs<|pK _ _ a)<|Mg 3<|M2 .apl (et (sA:List.map aQ (w::r)≠[])<|fM 4 aQ (w::r) fun _=>rfl) (by(refine aC (m:=2^31) ?_ ?_ ?_<;>first|omega|grind):small ((w::r).map aQ).length 40=true)<|Mg 0<|M2 (.fsl 0 [] 2 q) ti (cn (aU 0) (tA aQ (w::r) q.length (sA:(w::r).length=((w::r).map aQ).length))<|aX ig<|w::r)<|Ml 2 (fw q false<|aX ig<|w::r)<|Mf<|ba<|aW q
theorem Lo(p:PId)(u:TUnit)(h:By (cX p u) false)(hn:nU u≤2^20):kP 252 [eU u,.pptr [aK p] 0 0] (.bool false):=by
  have h':cX p u=false:=h
  exact bu Tryz.func252<|Kp 3 (I8 p u h hn)<|Kf 1<|ba<|eP false
theorem Ln(p:PId)(u:TUnit)(h:By (cX p u) true)(hn:nU u≤2^20):kP 252 [eU u,.pptr [aK p] 0 0] (.bool true):=by
  have h':cX p u=true:=h
  exact bu Tryz.func252<|Kp 3 (Eh p u h hn)<|Kf 1<|ba<|eP true
theorem Zf(l:List TUnit)(g:Nat)(q:TUnit→Bool)(hp:∀k,k∈l→kP g [eU k] (.bool (q k)))(hl:l.length<2^40):kP 251 [.ls (l.map aV),.func (.func g) [] []] (iV (co q l 0)):=by
  have rr0 b' (h:(co q l 0)=b':=by first|exact j7 zd0 hr0 hj0 ‹_› |exact hj0):=h;exact bu Tryz.func251<|Kl 2 7 (ln aV l)<|Mg 0<|uy aV l [0,1,7,8] (fun a _=>([aW<|l.map aV,bJ (bW g) [] [],nV l.length,nV a],[])) (fun a=>co q l (0:Nat)=co q a (l.length-a.length)) sA (fun _ _ zd0 _ hr0 a hj0=>Kh 0 a<|Kf 0<|li<|rr0 (-1)) fun a _ zd0 _ b c d hr0 e _ f hj0=>have f:=f.trans<|congrArg some<|aO b;Kt 0 e<|Kx 4 f<|Kp 0 (hp b<|by exact aN zd0 hr0)<|Mb (q b) (fun _=>Kf 1<|li<|rr0<|Int.ofNat a) fun _=>Kl 0 18 (de a)<|Kf 0<|d<|by exact ie zd0 hr0 hj0 (by omega)
theorem YR(l:List TUnit)(g:Nat)(p:PId)(q:TUnit→Bool)(hp:∀k,k∈l→kP g [eU k,.pptr [aK p] 0 0] (.bool (q k)))(hl:l.length<2^40):kP 251 [.ls (l.map aV),.func (.func g) [] [.pptr [aK p] 0 0]] (iV (co q l 0)):=by
  have rr0 b' (h:(co q l 0)=b':=by first|exact j7 zd0 hr0 hj0 ‹_› |exact hj0):=h;exact bu Tryz.func251<|Kl 2 7 (ln aV l)<|Mg 0<|uy aV l [0,1,7,8] (fun a _=>([aW<|l.map aV,bJ (bW g) [] [AV.pptr [aw [iV p.a,iV p.i,iV p.n]] 0 0],nV l.length,nV a],[])) (fun a=>co q l (0:Nat)=co q a (l.length-a.length)) sA (fun _ _ zd0 _ hr0 a hj0=>Kh 0 a<|Kf 0<|li<|rr0 (-1)) fun a _ zd0 _ b c d hr0 e _ f hj0=>have f:=f.trans<|congrArg some<|aO b;Kt 0 e<|Kx 4 f<|Kp 0 (hp b<|by exact aN zd0 hr0)<|Mb (q b) (fun _=>Kf 1<|li<|rr0<|Int.ofNat a) fun _=>Kl 0 18 (de a)<|Kf 0<|d<|by exact ie zd0 hr0 hj0 (by omega)
theorem Ql{D a:Nat}{w:TUnit}{r:List TUnit}{u:TUnit}(h:D=Nat.max a (kj (w::r))∧a≤2^20)(q0:nU w<nU u)(q1:mF w<nU w)(hn:nU u≤2^20):D=Nat.max (Nat.max a (1+mF w)) (kj r)∧Nat.max a (1+mF w)≤2^20:=by
  grind[kj]
theorem TA{D a:Nat}(h:D=Nat.max a (kj [])∧a≤2^20):D=a:=by
  simp_all[Cv]
theorem Gu:∀(u:TUnit),nU u≤2^20→kP 239 [eU u] (nV (mF u)):=by
  refine TUnit.ind fun u ih hn=>?_
  have hkl:=bd u
  have ihk:∀k,k∈u.kids→kP 239 [eU k] (nV (mF k)):=fun k hk=>ih k hk (bN (sn (ib hk)) hn)
  have rr0 b' (h:(Int.ofNat (mF u))=b':=by(rw[Kk,TA hj0])):=h;exact bu Tryz.func239<|Kl 5 8 (ln aV u.kids)<|Mg 0<|KT aV u.kids (0:Nat) [3,7,8,9] (fun a _ b=>([nV b,aW<|u.kids.map aV,nV u.kids.length,nV a],[aZ 8 false 0 [aw [iV u.act,iV u.item,iV u.n,iV u.kind,aj u.label,aW<|u.head.map aQ,aW<|u.words.map aQ,aW<|u.kids.map aV]]])) (fun a b=>kj u.kids=b.max (kj a)∧b≤2^20) sA (fun _ _ a _ _ _ b hj0=>Kh 0 b<|Kf 1<|li<|rr0<|Int.ofNat a) fun a _ b c d e f g i j _ l _=>have l:=(l).trans<|congrArg some<|aO e;have hj0:=cH (J:=fun a b=>kj u.kids=b.max (kj a)∧b≤2^20) (a:=b) i d;have d:=ib<|aN c i;have m:=Dp e;Kt 0 j<|Mx l<|Kp 4 (ihk e<|by exact aN c i)<|Kl 0 16 (b0 (x:=(1:Int)+Int.ofNat (mF e)) (n:=(1:Nat)+mF e) fW)<|Kl 0 17 (np (k:=IntKind.i64)<|Vj b<|1+mF e)<|Kl 1 18 (iz a)<|K1 0 (.frz 1 [3,7,8,9]) (et rt ti)<|Mf<|g (b.max<|1+mF e)<|by exact Ql hj0 d m hn
theorem KV(g:Nat)(q:TUnit→Bool):∀(u:TUnit),(∀x,x∈bg u→kP g [eU x] (.bool (q x)))→u.kids.length<2^40→(∀x,x∈bg u→x.kids.length<2^40)→kP 64 [eU u,.func (.func g) [] []] (.bool (vc q u)):=by
  refine TUnit.ind fun u ih hp hl hk=>?_
  have ihk:∀k,k∈u.kids→kP 64 [eU k,.func (.func g) [] []] (.bool (vc q k)):=fun k hm=>ih k hm (fun x hx=>hp x (bC hm hx)) (hk k (J2 hm)) (fun x hx=>hk x (bC hm hx))
  have hs:=hp u (dY u)
  have rr0 b' (h:(vc q u)=b':=by first|(rw[xB];simp only[aS,ax,bS, *];done)|(rw[xB,hj0,NY])|(rw[xB,hj0,Aw];simp only[aS,ax,bS, *];done)):=h;exact bu Tryz.func64<|Kp 3 hs<|Kn 0 (q u) (fun _=>Ky 0<|rr0 false) fun _=>Kl 2 13 (ln aV u.kids)<|K1 0 (.frz 0 [1,12,13,14]) ti<|uy aV u.kids [1,12,13,14] (fun a _=>([bJ (bW g) [] [],aW<|u.kids.map aV,nV u.kids.length,nV a],[])) (fun a=>(q u&&(dw u.kids).all q)=(dw a).all q) (by(simp only[aS,ax,bS, *];done)) (fun _ _ _ _ _ a hj0=>Kh 0 a<|Ky 0<|rr0 true) fun a _ b _ c d e f i _ j hj0=>have j:=j.trans<|congrArg some<|aO c;Kt 0 i<|Mx j<|Kp 4 (ihk c<|by exact aN b f)<|Kn 0 (vc q c) (fun _=>Kf 0<|cZ<|rr0 false) fun _=>Kl 0 22 (de a)<|K1 0 (.frz 0 [1,12,13,14]) ti<|Mf<|e<|by simp_all[Aw]
theorem MS(u:TUnit)(n:Nat)(hn:n<2^40):kD 240 [eU u,.ptr 0 0 0 0] (ay [.row 1 false 0 [nV n]]) (.bool true) (ay [.row 1 false 0 [nV (n+1)]]):=by
  exact fq Tryz.func240 fun a=>Kl 3 5 (iz n)<|K1 1 (.frz 1 [3]) (et rt ti)<|Mf a
theorem Gv:∀(u:TUnit),∀(n:Nat),n+nU u<2^40→kD 64 [eU u,.func (.func 240) [] [.ptr 0 0 0 0]] (ay [.row 1 false 0 [nV n]]) (.bool true) (ay [.row 1 false 0 [nV (n+nU u)]]):=by
  refine TUnit.ind fun u ih n hn=>?_
  have hq:=iS u
  have hl:=bd u
  exact K7 Tryz.func64<|K1 3 (.frz 1 [1,2,7,8]) (et rt ti)<|Me (MS u n oA)<|Kl 4 13 (ln aV u.kids)<|Mg 0<|KT aV u.kids (n+1) [1,12,13,14] (fun a _ b=>([bJ (bW 240) [] [bY 0 0 0 0],aW<|u.kids.map aV,nV u.kids.length,nV a],[aZ 1 false 0 [nV b]])) (fun a b=>n+nU u=b+dO a∧b+dO a<2^40) oA (fun _ _ a _ _ _ b _=>Kh 0 b<|Kf 0<|et (aU<|eP true) (by simp_all[lG]:(ay [AObj.row 1 false 0 [nV a]])=(ay [AObj.row 1 false 0 [nV (n+nU u)]]))) fun a _ b c _ d e f g h _ i _=>have i:=i.trans<|congrArg some<|aO d;have c:=aN c g;have g:b+nU d<2^40:=(by grind[bc]);Kt 0 h<|Mx i<|K1 4 (.frz 1 [1,12,13,14,18,19]) (et rt ti)<|Me (ih d c b g)<|Kl 2 22 (iz a)<|Kf 0<|f (b+nU d)<|by grind[bc]
theorem Dt(u:TUnit)(hn:nU u<2^39):kP 160 [eU u] (nV (nU u)):=by
  have rr0 b' (h:(Int.ofNat (nU u))=b':=by(rw[gQ])):=h;exact bu Tryz.func160<|Mg 5<|M0 (.ren [1,0] [] [3,4,5])<|M1 (.frz 1 [3,4,5]) (et rt ti)<|Me (Gv u 0 oA)<|Kf 1<|li<|rr0<|Int.ofNat<|0+nU u
noncomputable abbrev rq(ep n:Nat):AObj:=.row 1 false 0 [.slice 1 ep 0 n none]
noncomputable abbrev Lh(ep:Nat)(l:List PId):AObj:=.row 3 true ep (l.map aK)
theorem VI(u:TUnit):kD 65 [eU u,.ptr 0 0 0 0] (ay [.row 1 false 0 [.nils]]) (.bool true) (ay [rq 0 1,Lh 0 [bz u]]):=by
  exact Zz Tryz.func65 (.go 8<|.ren [0,2,1] [] [3]<|.frz 2 [3] .fin) fun a=>et (cn rt rt ti) a
theorem VM(u:TUnit)(ep n:Nat)(l:List PId)(hn:n=l.length)(hl:l.length<2^30):kD 65 [eU u,.ptr 0 0 0 0] (ay [rq ep n,Lh ep l]) (.bool true) (ay [rq (ep+1) (n+1),Lh (ep+1) (l++[bz u])]):=by
  exact fq Tryz.func65 fun a=>K1 5 .app (cn (aU ep) (sA:n=(l.map aK).length) (by(refine aC (m:=2^31) ?_ ?_ ?_<;>omega):small (n+1) 24=true))<|M1 (.obj 1<|aZ 3 true (ep+1)<|(l++[PId.mk u.act u.item u.n]).map aK) (congrArg (aZ 3 true<|ep+1)<|dz (f:=aK) (l:=l) (ws:=[PId.mk u.act u.item u.n]))<|K1 1 (.frz 2 [3]) (cn (tR 3 true (ep+1) 2<|aX Io<|l++[PId.mk u.act u.item u.n]) rt ti)<|Mf a
theorem Mu:∀(u:TUnit),∀(ep n:Nat)(l:List PId),n=l.length→l.length+nU u<2^30→kC 64 [eU u,.func (.func 65) [] [.ptr 0 0 0 0]] (ay [rq ep n,Lh ep l])
    (fun v h=>∃y:Nat×Nat×List PId,(y.2.1=y.2.2.length∧y.2.2=l++dZ u)∧v=.bool true∧h=ay [rq y.1 y.2.1,Lh y.1 y.2.2]):=by
  refine TUnit.ind fun u ih ep n l hn hl=>?_
  have hq:=iS u
  have hkl:=bd u
  exact pD Tryz.func64 fun a=>K1 3 (.frz 2 [1,2,7,8]) (cn (tR 3 true ep 2<|aX Io l) rt ti)<|Me (VM u ep n l hn oA)<|Kl 4 13 (ln aV u.kids)<|Mg 0<|Ux aV u.kids (ep+1) (n+1) (l++[bz u]) [1,12,13,14] (fun a _ b c d=>([bJ (bW 65) [] [bY 0 0 0 0],aW<|u.kids.map aV,nV u.kids.length,nV a],[aZ 1 false 0 [aG 1 b 0 c none],aZ 3 true b<|d.map aK])) (fun a _ b c=>b=c.length∧c++iK a=l++[bz u]++iK u.kids∧c.length+dO a<2^30) gR (fun _ _ b c d _ _ _ e _=>Kh 0 e<|Kf 0<|a (b,c,d)<|by grind[qM,nZ]) fun a _ b c d e f g i j k m _ o _=>have o:=(o).trans<|congrArg some<|aO g;have:=cH (J:=fun a b=>b.2.1=b.2.2.length∧b.2.2++iK a=l++[bz u]++iK u.kids∧b.2.2.length+dO a<2^30) (a:=(b,c,d)) k f;have e:=aN e k;have f:d.length+nU g<2^30:=(by grind[bc]);Kt 0 m<|Mx o<|K1 4 (.frz 2 [1,12,13,14,18,19]) (cn (tR 3 true b 2<|aX Io d) rt ti)<|Mq (ih g e b c d oA f) fun b _=>Kl 2 22 (de a)<|Kf 0<|j b.1 b.2.1 b.2.2<|by grind[bc,fS,th]
theorem Ub(l:List PWord)(hl:l.length≤300)(hs:∀w,w∈l→w.text.length≤2^39):kP 334 [.ls (l.map aQ)] (.bool (ov l)):=by
  have hv:=Jg (l.map PWord.text) (by grind) (fun s hm=>by grind)
  have rr0 b' (h:(ov l)=b':=by(simp only[ov,aS,ax,bS, *])):=h;exact bu Tryz.func334<|Kl 3 7 (ln aQ l)<|Mg 0<|lk Nat Nat (List aP) aQ l [0,3,6,7,8] (fun a _=>([aW<|l.map aQ,aa,aW<|l.map aQ,nV l.length,nV a],[])) (fun a _ b c d=>([aW<|l.map aQ,aG 0 b 0 c none,aW<|l.map aQ,nV l.length,nV a],[aZ 1 true b<|d.map mE])) (fun a=>a=l) (fun a _ b c=>b=c.length∧(0:Nat)<c.length∧c++List.map PWord.text a=List.map PWord.text l∧c.length+a.length=l.length) (by rfl) (fun _ _ _ _ _ a _=>Kh 0 a<|Kl 1 19 (ln aQ l)<|Kd 1 256 (Int.ofNat l.length) (fun a _=>Kt 0 (cW a)<|Mp (aI.onArgs (.cons (Le.lsn (sA:((l.map PWord.text).map mE)=[])) .nil) hv:kP 255 [aa] _)<|MV (cW a)<|Kf 0<|cZ<|rr0<|pO<|l.map PWord.text) fun a _=>Mh (cQ a)<|My (cQ a)<|Kf 0<|cZ<|rr0 false) (fun a _ _ _ b c _ d _ e _ f g=>Kt 0 e<|Mx f<|Kl 9 17 (iz a)<|Mg 0<|M0 (.ren [1,0] [] [0,3,6,7,8])<|M1 (.frz 1 [0,3,6,7,8]) (et rt ti)<|Mf<|d 0 1 [b.text]<|by(refine⟨rfl,by simp,?_,?_⟩<;>(rw[←g])<;>(first|rfl|grind))) (fun _ _ a b c _ _ _ d _=>Kh 0 d<|Kl 1 19 (ln aQ l)<|Kd 1 256 (Int.ofNat l.length) (fun d _=>Mg 0<|M2 (.fsl 0 [21] 22<|c.map mE) ti (cn (aU a) (tA mE c b (oA:(c).length=b))<|aX Im c)<|Ml 22 (fw (c.map mE) false<|aX Im c)<|Mt (cW d)<|Mp (aI.onArgs (.cons (cj (sA:((l.map PWord.text).map mE)=(c.map mE))) .nil) hv:kP 255 [aW (c.map mE)] _)<|MV (cW d)<|Kf 0<|cZ<|rr0<|pO<|l.map PWord.text) fun a _=>Mh (cQ a)<|My (cQ a)<|Kf 0<|cZ<|rr0 false) fun a _ b c d _ _ e f _ g _ i _ j k=>Kt 0 i<|Mx j<|K1 6 .app (cn (aU b) (sA:c=(d.map mE).length) (by(refine aC (m:=2^20) ?_ ?_ ?_<;>omega):small (c+1) 16=true))<|M1 (.obj 0<|aZ 1 true (b+1)<|(d++[e.text]).map mE) (congrArg (aZ 1 true<|b+1)<|dz (f:=mE) (l:=d) (ws:=[e.text]))<|Kl 1 17 (iz a)<|K1 0 (.frz 1 [0,3,6,7,8]) (et (tR 1 true (b+1) 1<|aX Im<|d++[e.text]) ti)<|Mf<|g (b+1) (c+1) (d++[e.text])<|by(refine⟨by simp_all,by simp,?_,?_⟩<;>first|(rw[←k.2.2.1];simp;done)|grind)
theorem oE(a b:Nat):Int.ofNat (a+b)=Int.ofNat a+Int.ofNat b:=rfl
theorem Rz(u:TUnit)(h1:u.head.length≤300)(h2:u.words.length≤300)(h3:u.kids.length<2^30)(h4:u.label.length≤2^39)(h5:∀w,w∈u.head→w.text.length≤2^39)(h6:∀w,w∈u.words→w.text.length≤2^39):kP 320 [eU u] (.bool (ll u)):=by
  have hlk:∀(m:List ((Int×aP)×Bool))(a:Int)(s:aP),ed (some (.bool false)) false (bq true 2 [(0,1),(1,2)] (.agg [iV a,.str s]) (bF pv dX m 0) 0)=some (.bool (Nh mC (a,s) m)):=fun m a s=>Fh J3 m (a,s)
  have hup:∀(m:List ((Int×aP)×Bool))(a:Int)(s:aP),pE (bF pv dX m 0) m.length (.agg [iV a,.str s]) (.bool true) (bq true 2 [(0,1),(1,2)] (.agg [iV a,.str s]) (bF pv dX m 0) 0)=some (bF pv dX (dD mC (a,s) true m) 0,(dD mC (a,s) true m).length):=fun m a s=>JQ J3 m (a,s)
  have r1:=Ub u.head h1 h5
  have r2:=Ub u.words h2 h6
  have r3:=tw u.label h4
  have rr0 b' (h:(ll u)=b':=by first|(rw[ll,hj0,mn];simp only[DU,aR,oE,cond_true,cond_false,aS,ax,bS,sr,Bool.false_and,Bool.not_true,A5,Bool.true_and, *];first|done|rfl)|(simp only[ll,DU,aR,oE,cond_true,cond_false,aS,ax,bS, *];done)|(simp only[ll,mn,DU,aR,oE,cond_true,cond_false,aS,ax,bS, *];done)|(simp only[ll,mn,DU,aR,oE,cond_true,cond_false,aS,ax,bS,sr,Bool.false_and,Bool.not_true,A5,Bool.true_and, *];first|done|rfl)):=h;exact bu Tryz.func320<|Kj 4 u.kind 0 (fun _ b=>Kn 3 (dR u.label (ByteArray.mk #[]).data.toList) (fun b=>Mt (cW b)<|Mt (cW b)<|Mt (cW b)<|Mt (cW b)<|Mt (cW b)<|Mt (cW b)<|Mt (cW b)<|MV (cW b)<|Ky 1<|rr0 false) fun c=>Kh 0 (cQ c)<|Kh 0 (cQ c)<|Kl 0 16 (ln aQ u.head)<|Mh (cQ c)<|Kh 0 (cQ c)<|Kh 0 (cQ c)<|Kl 0 19 (ln aQ u.words)<|Mh (cQ c)<|Kl 0 20 (Le.wr (x:=Int.ofNat u.head.length+Int.ofNat u.words.length) fW)<|Mh (cQ c)<|Kw 0 (cQ c)<|Mb (ap 0<|Int.ofNat u.head.length+Int.ofNat u.words.length) (fun b=>have:=ar b;Ky 0<|rr0 false) fun c=>have:=aM c;Kl 4 48 (ln aV u.kids)<|Mg 0<|KT aV u.kids ([]:List ((Int×aP)×Bool)) [1,3,47,48,49] (fun b _ c=>([bY 0 0 0 0,AV.map 1,aW<|u.kids.map aV,nV u.kids.length,nV b],[aZ 8 false 0 [aw [iV u.act,iV u.item,iV u.n,iV u.kind,aj u.label,aW<|u.head.map aQ,aW<|u.words.map aQ,aW<|u.kids.map aV]],AObj.map (bF pv dX c 0) c.length])) (fun b c=>mn u.kind u.kids []=mn u.kind b c) (by rfl) (fun _ _ _ _ _ _ b hj0=>Kh 0 b<|Kl 2 74 (ln aV u.kids)<|Kf 1<|cZ<|rr0<|ax<|ap 64<|Int.ofNat u.kids.length) fun c _ d _ _ e f g _ i _ j hj0=>have j:=j.trans<|congrArg some<|aO e;Kt 0 i<|Mx j<|Kl 11 59 (np (k:=IntKind.i64) b)<|Kp 1 (yL 0 e.kind)<|Kn 1 (i9 0 e.kind) (fun b=>Mt (cW b)<|Mt (cW b)<|MV (cW b)<|Ky 1<|rr0 false) fun b=>Kh 0 (cQ b)<|Kh 0 (cQ b)<|M1 (.look<|eP<|Nh mC (e.kind,e.label) d) (hlk d e.kind e.label)<|My (cQ b)<|Mb (Nh mC (e.kind,e.label) d) (fun _=>Kf 0<|cZ<|rr0 false) fun _=>K1 1 (.upd (bF pv dX (dD mC (e.kind,e.label) true d) 0) (dD mC (e.kind,e.label) true d).length) (hup d e.kind e.label)<|Kl 0 71 (de c)<|K1 0 (.frz 2 [1,3,47,48,49]) (cn (tM (dD mC (e.kind,e.label) true d).length 2 (by exact bE J3 zF _ _:eT (bF pv dX (dD mC (e.kind,e.label) true d) 0)=0)) rt ti)<|Mf<|g (dD mC (e.kind,e.label) true d)<|by(rw[hj0,mn];simp only[aS,ax,bS, *];done)) fun _ _=>Kp 1 (wV u.kind)<|Kb 1 (dR (cN u.kind) (ByteArray.mk #[]).data.toList) (fun b=>Mt b<|Mt b<|Mt b<|MV b<|Ky 5<|rr0 false) fun b=>Kh 0 b<|Kh 0 b<|Mp r3<|Mh b<|Kw 0 b<|Kn 0 (j5 u.label) (fun b=>Mt (cW b)<|Mt (cW b)<|Mt (cW b)<|MV (cW b)<|Ky 3<|rr0 false) fun b=>Kh 0 (cQ b)<|Kh 0 (cQ b)<|Mp r1<|Mh (cQ b)<|Kw 0 (cQ b)<|Kn 0 (ov u.head) (fun b=>Mt (cW b)<|Mt (cW b)<|Mt (cW b)<|MV (cW b)<|Ky 1<|rr0 false) fun b=>Kh 0 (cQ b)<|Kh 0 (cQ b)<|Mp r2<|Mh (cQ b)<|Kw 0 (cQ b)<|Mn (ov u.words) (fun _=>Ky 0<|rr0 false) fun _=>Kl 4 48 (ln aV u.kids)<|Mg 0<|KT aV u.kids ([]:List ((Int×aP)×Bool)) [1,3,47,48,49] (fun b _ c=>([bY 0 0 0 0,AV.map 1,aW<|u.kids.map aV,nV u.kids.length,nV b],[aZ 8 false 0 [aw [iV u.act,iV u.item,iV u.n,iV u.kind,aj u.label,aW<|u.head.map aQ,aW<|u.words.map aQ,aW<|u.kids.map aV]],AObj.map (bF pv dX c 0) c.length])) (fun b c=>mn u.kind u.kids []=mn u.kind b c) (by rfl) (fun _ _ _ _ _ _ b hj0=>Kh 0 b<|Kl 2 74 (ln aV u.kids)<|Kf 1<|cZ<|rr0<|ax<|ap 64<|Int.ofNat u.kids.length) fun b _ c _ _ d e f _ g _ i hj0=>have i:=i.trans<|congrArg some<|aO d;Kt 0 g<|Mx i<|Kp 13 (yL u.kind d.kind)<|Kn 1 (i9 u.kind d.kind) (fun b=>Mt (cW b)<|Mt (cW b)<|MV (cW b)<|Ky 1<|rr0 false) fun g=>Kh 0 (cQ g)<|Kh 0 (cQ g)<|M1 (.look<|eP<|Nh mC (d.kind,d.label) c) (hlk c d.kind d.label)<|My (cQ g)<|Mb (Nh mC (d.kind,d.label) c) (fun _=>Kf 0<|cZ<|rr0 false) fun _=>K1 1 (.upd (bF pv dX (dD mC (d.kind,d.label) true c) 0) (dD mC (d.kind,d.label) true c).length) (hup c d.kind d.label)<|Kl 0 71 (de b)<|K1 0 (.frz 2 [1,3,47,48,49]) (cn (tM (dD mC (d.kind,d.label) true c).length 2 (by exact bE J3 zF _ _:eT (bF pv dX (dD mC (d.kind,d.label) true c) 0)=0)) rt ti)<|Mf<|f (dD mC (d.kind,d.label) true c)<|by(rw[hj0,mn];simp only[aS,ax,bS, *];done)
theorem Ia(u:TUnit)(hl:nU u<2^29):kC 64 [eU u,.func (.func 65) [] [.ptr 0 0 0 0]] (ay [.row 1 false 0 [.nils]])
    (fun v h=>∃y:Nat×Nat×List PId,(y.2.1=y.2.2.length∧y.2.2=dZ u)∧v=.bool true∧h=ay [rq y.1 y.2.1,Lh y.1 y.2.2]):=by
  have hq:=iS u
  have hkl:=bd u
  exact pD Tryz.func64 fun a=>K1 3 (.frz 1 [1,2,7,8]) (et rt ti)<|Me (VI u)<|Kl 4 13 (ln aV u.kids)<|Mg 0<|Ux aV u.kids (0:Nat) (1:Nat) ([bz u]:List PId) [1,12,13,14] (fun a _ b c d=>([bJ (bW 65) [] [bY 0 0 0 0],aW<|u.kids.map aV,nV u.kids.length,nV a],[aZ 1 false 0 [aG 1 b 0 c none],aZ 3 true b<|d.map aK])) (fun a _ b c=>b=c.length∧c++iK a=[bz u]++iK u.kids∧c.length+dO a<2^30) gR (fun _ _ b c d _ _ _ e f=>Kh 0 e<|Kf 0<|a (b,c,d)<|by(refine⟨f.1,?_⟩;have:=f.2.1;rw[qM,dr]at this;rw[this,nZ];rfl)) fun a _ b c d e f g i j k l _ m _=>have m:=(m).trans<|congrArg some<|aO g;have:=cH (J:=fun a b=>b.2.1=b.2.2.length∧b.2.2++iK a=[bz u]++iK u.kids∧b.2.2.length+dO a<2^30) (a:=(b,c,d)) k f;have:=aN e k;have e:d.length+nU g<2^30:=(by grind[bc]);Kt 0 l<|Mx m<|K1 4 (.frz 2 [1,12,13,14,18,19]) (cn (tR 3 true b 2<|aX Io d) rt ti)<|Mq (Mu g b c d oA e) fun b _=>Kl 2 22 (de a)<|Kf 0<|j b.1 b.2.1 b.2.2<|by grind[bc,fS,th]
theorem PC(u:TUnit)(hl:nU u<2^29):kP 33 [eU u] (.ls ((dZ u).map aK)):=by
  have rr0 b' (h:((dZ u).map aK)=b':=by(rw[hy0.2])):=h;exact bu Tryz.func33<|Mg 4<|M0 (.ren [1,0] [] [3,4,5])<|M1 (.frz 1 [3,4,5]) (et rt ti)<|Mq (Ia u hl) fun a hy0=>Mg 1<|M2 (.fsl 0 [] 2<|a.2.2.map aK) ti (cn (aU a.1) (tA aK a.2.2 a.2.1 (oA:(a.2.2).length=a.2.1))<|aX Io a.2.2)<|Ml 2 (fw (a.2.2.map aK) false<|aX Io a.2.2)<|Mf<|cj<|rr0<|a.2.2.map aK
theorem VH(u:TUnit)(hl:nU u<2^20):kP 321 [eU u] (.bool (PD u)):=by
  have hb:(dZ u).length<2^20:=by grind[th]
  have hi:=PC u (by omega)
  have hlk:∀(m:List (PId×Bool))(a b c:Int),ed (some (.bool false)) false (bq true 3 [(0,1),(1,1),(2,1)] (.agg [iV a,iV b,iV c]) (bF aK dX m 0) 0)=some (.bool (Nh bh ⟨a,b,c⟩ m)):=fun m a b c=>Fh IX m ⟨a,b,c⟩
  have hup:∀(m:List (PId×Bool))(a b c:Int),pE (bF aK dX m 0) m.length (.agg [iV a,iV b,iV c]) (.bool true) (bq true 3 [(0,1),(1,1),(2,1)] (.agg [iV a,iV b,iV c]) (bF aK dX m 0) 0)=some (bF aK dX (dD bh ⟨a,b,c⟩ true m) 0,(dD bh ⟨a,b,c⟩ true m).length):=fun m a b c=>JQ IX m ⟨a,b,c⟩
  have rr0 b' (h:(PD u)=b':=by((try clear gh1);(try clear gh2);(try clear gh3);(try clear gh4);(try clear gh5);(try clear gh6);(try clear gh7);have e:=Cj (kenc:=aK) (f:=dX) za0 0;simp only[e,lM]at *;simp only[PD,fc,bh,bz,bL,hj0,Lx,aS,ax,bS, *];first|done|rfl)):=h;exact bu Tryz.func321<|Kp 2 hi<|Kl 4 12 (ln aK<|dZ u)<|Mg 0<|KT aK (dZ u) ([]:List (PId×Bool)) [1,3,4,11,12,13] (fun d _ g=>([bY 0 0 0 0,aW<|(dZ u).map aK,AV.map 1,aW<|(dZ u).map aK,nV (dZ u).length,nV d],[aZ 8 false 0 [aw [iV u.act,iV u.item,iV u.n,iV u.kind,aj u.label,aW<|u.head.map aQ,aW<|u.words.map aQ,aW<|u.kids.map aV]],AObj.map (bF aK dX g 0) g.length])) (fun d g=>Bc (dZ u) []=Bc d g) (by rfl) (fun _ _ za0 _ _ _ d hj0=>Kh 0 d<|K1 1 (.look<|eP<|Nh bh (PId.mk 0 0 0) za0) (hlk za0 0 0 0)<|Kb 2 (Nh bh (PId.mk 0 0 0) za0) (fun d=>Kt 0 d<|Kt 0 d<|Ku 0 d<|Kj 0 (Int.ofNat (bF aK dX za0 0).length) 1 (fun d gh2=>Mt d<|Mt d<|Mt d<|Mt d<|Mt d<|Mt d<|MV d<|Ky 0<|rr0 true) fun d gh2=>Kh 0 d<|Kh 0 d<|Kh 0 d<|Kh 0 d<|Kh 0 d<|Kj 0 (Int.ofNat (bF aK dX za0 0).length) (Int.ofNat ((dZ u).map aK).length) (fun g gh3=>Kt 0 g<|Kt 0 g<|Kt 0 g<|Kt 0 g<|Kt 0 g<|Kt 0 g<|Mv (lX ((Tryz.prog).underlying 25) u.act u.item u.n 0 0 0 h0)<|Mt g<|Kh 0 d<|MV g<|My d<|Kf 0<|cZ<|rr0<|ab u.kind 0==(ab u.act 0&&(ab u.item 0&&ab u.n 0))) fun g gh3=>Mh g<|Mh g<|Mh g<|Mh g<|Mh g<|Mh g<|Mh g<|Mh d<|My g<|My d<|Ky 0<|rr0 false) fun d=>Mh d<|Mh d<|My d<|Kj 6 (Int.ofNat (bF aK dX za0 0).length) (Int.ofNat ((dZ u).map aK).length) (fun d gh4=>Kt 0 d<|Kt 0 d<|Kt 0 d<|Kt 0 d<|Kt 0 d<|Kt 0 d<|Mv (lX ((Tryz.prog).underlying 25) u.act u.item u.n 0 0 0 h0)<|Mt d<|Ku 0 d<|Kf 1<|cZ<|rr0<|ab u.kind 0==(ab u.act 0&&(ab u.item 0&&ab u.n 0))) fun d gh4=>Mh d<|Mh d<|Mh d<|Mh d<|Mh d<|Mh d<|Mh d<|My d<|Ky 1<|rr0 false) fun d _ za0 _ _ g i j _ k _ l hj0=>Kt 0 k<|Mx l<|K1 4 (.upd (bF aK dX (dD bh (PId.mk g.a g.i g.n) true za0) 0) (dD bh (PId.mk g.a g.i g.n) true za0).length) (hup za0 g.a g.i g.n)<|Kl 0 19 (iz d)<|K1 0 (.frz 2 [1,3,4,11,12,13]) (cn (tM (dD bh (PId.mk g.a g.i g.n) true za0).length 2 (by exact bE IX zF _ _:eT (bF aK dX (dD bh (PId.mk g.a g.i g.n) true za0) 0)=0)) rt ti)<|Mf<|j (dD bh (PId.mk g.a g.i g.n) true za0)<|by(rw[hj0];rfl)
/-- What a tree's parts must be, so that the walks can count. -/
def ry(x:TUnit):Prop:=x.head.length≤300∧x.words.length≤300∧x.label.length≤2^39∧(∀w,w∈x.head→w.text.length≤2^39)∧∀w,w∈x.words→w.text.length≤2^39
def mU(u:TUnit):Prop:=nU u≤2^19∧∀x,x∈bg u→ry x
theorem Gy(u:TUnit)(h:mU u):kP 64 [eU u,.func (.func 320) [] []] (.bool (vc ll u)):=
  KV 320 ll u
    (fun x hx=>by
      obtain⟨a,b,c,d,e⟩:=h.2 x hx
      have h1:=bd x
      have h2:=dE hx
      have h3:=h.1
      grind[Rz])
    (by have h1:=bd u;have h3:=h.1;omega)
    (fun x hx=>by
      have h1:=bd x
      have h2:=dE hx
      have h3:=h.1
      omega)
theorem xV(u:TUnit)(h:mU u):kP 288 [eU u] (.bool (kf u)):=by
  have h1:=h.1
  have e1:=Gy u h
  have e2:=Gu u (by omega)
  have e3:=Dt u (by omega)
  have e4:=VH u (by omega)
  have hd:=Dp u
  have rr0 b' (h:(kf u)=b':=by(simp only[kf,aS,ax,bS, *];done)):=h;exact bu Tryz.func288<|Kp 2 e1<|Kb 0 (vc ll u) (fun a=>Kt 0 a<|Mp e2<|Mt a<|Ku 0 a<|Kn 0 (ap 8<|Int.ofNat<|mF u) (fun a=>Kt 0 (cW a)<|Mp e3<|Mt (cW a)<|Ku 0 (cW a)<|Kn 0 (ap 1024<|Int.ofNat<|nU u) (fun a=>Kt 0 (cW a)<|Mp e4<|MV (cW a)<|Kf 0<|cZ<|rr0<|PD u) fun a=>Mh (cQ a)<|My (cQ a)<|Ky 0<|rr0 false) fun a=>Mh (cQ a)<|Mh (cQ a)<|My (cQ a)<|Ky 2<|rr0 false) fun a=>Mh a<|Mh a<|My a<|Ky 4<|rr0 false
theorem rQ(l:List PWord)(hl:l.length<2^30):kP 206 [.ls (l.map aQ)] (.ls (l.map aQ)):=by
  cases l with
  |nil=>exact aI.ls0 (QI.less Le.nils) (QH.lessB (u:=.ls []) (by kernel_rfl))
  |cons w r=>grind[QL]
noncomputable abbrev vB:AObj:=.row 8 false 0 [.agg [iV 0,iV 0,iV 0,iV 0,.str [],.nils,.nils,.nils]]
theorem GD:∀(u:TUnit),nU u≤2^20→(∀x,x∈bg u→x.head.length<2^30∧x.words.length<2^30)→kP 141 [eU u] (eU u):=by
  refine TUnit.ind fun u ih hn ht=>?_
  have hkl:=bd u
  have c1:=rQ u.head (ht u (dY u)).1
  have c2:=rQ u.words (ht u (dY u)).2
  have ihk:∀k,k∈u.kids→kP 141 [eU k] (eU k):=fun k hk=>ih k hk (bN (sn (ib hk)) hn) (fun x hx=>ht x (bC hk hx))
  have rr0 b' (h:(u.kids.map aV)=b':=by first|rfl|(rw[←hj0];rfl)|(rw[←hj0.2.2.1,dr])):=h;let q1:=List.map aQ u.words;let q2:=List.map aQ u.head;exact bu Tryz.func141<|Kp 3 c1<|Kp 1 c2<|Kl 7 16 (ln aV u.kids)<|Mg 0<|lk Nat Nat (List TUnit) aV u.kids [1,2,3,15,16,17] (fun a _=>([bY 0 0 0 0,bY 1 0 0 0,aa,aW<|u.kids.map aV,nV u.kids.length,nV a],[aZ 8 false 0 [aw [iV u.act,iV u.item,iV u.n,iV u.kind,aj u.label,aW<|u.head.map aQ,aW<|u.words.map aQ,aW<|u.kids.map aV]],aZ 8 false 0 [aw [iV 0,iV 0,iV 0,iV 0,aj [],aa,aa,aa]]])) (fun a _ b c d=>([bY 0 0 0 0,bY 1 0 0 0,aG 2 b 0 c none,aW<|u.kids.map aV,nV u.kids.length,nV a],[aZ 8 false 0 [aw [iV u.act,iV u.item,iV u.n,iV u.kind,aj u.label,aW<|u.head.map aQ,aW<|u.words.map aQ,aW<|u.kids.map aV]],aZ 8 false 0 [aw [iV 0,iV 0,iV 0,iV 0,aj [],aa,aa,aa]],aZ 8 true b<|d.map aV])) (fun a=>a=u.kids) (fun a _ b c=>b=c.length∧(0:Nat)<c.length∧c++a=u.kids∧c.length+a.length=u.kids.length) (by rfl) (fun _ _ _ _ _ a hj0=>Kh 0 a<|Kl 0 27 bo<|Kf 3 (aL (lc<|lc<|lc<|lc<|lc<|lc<|lc<|.cons (cj<|rr0 []) .nil)<|by kernel_rfl:Le _ (AV.agg [iV u.act,iV u.item,iV u.n,iV u.kind,AV.str u.label,AV.ls q2,AV.ls q1,AV.ls []]))) (fun a _ _ b c d _ e f g _ i _=>have i:=(i).trans<|congrArg some<|aO c;have hj0:=cH (J:=fun a _=>a=u.kids) (a:=()) f b;Kt 0 g<|Mx i<|Kp 4 (ihk c gR)<|K1 1 (.obj 3<|aZ 8 true 0<|List.map aV [c]) (congrArg (aZ 8 true 0)<|SG (f:=aV) (g:=Go.Ev.eU) (ws:=[c]) aO)<|Kl 1 26 (de a)<|K1 0 (.ren [0,1,3,2] [3] [1,2,3,15,16,17]) (tS 8 true 0<|aX gN [c])<|M1 (.frz 3 [1,2,3,15,16,17]) (jF (tR 8 true 0 3<|aX gN [c]) rt rt ti)<|Mf<|e 0 1 [c]<|by(refine⟨rfl,by simp,?_,?_⟩<;>(rw[←hj0])<;>(first|rfl|grind))) (fun _ _ a b c _ _ _ d hj0=>let e:=List.map aV c;Kh 0 d<|Mg 0<|M2 (.fsl 2 [1,2] 27 e) (cn rt rt ti) (cn (aU a) (tA aV c b (oA:(c).length=b))<|aX gN c)<|Ml 27 (fw e false<|aX gN c)<|Kf 3 (aL (lc<|lc<|lc<|lc<|lc<|lc<|lc<|.cons (cj<|rr0 e) .nil)<|by kernel_rfl:Le _ (AV.agg [iV u.act,iV u.item,iV u.n,iV u.kind,AV.str u.label,AV.ls q2,AV.ls q1,AV.ls e]))) fun a _ b c d _ e f g _ i j l _ n _=>have n:=(n).trans<|congrArg some<|aO f;have hj0:=cH (J:=fun a b=>b.2.1=b.2.2.length∧(0:Nat)<b.2.2.length∧b.2.2++a=u.kids∧b.2.2.length+a.length=u.kids.length) (a:=(b,c,d)) j e;Kt 0 l<|Mx n<|Kp 4 (ihk f gR)<|K1 0 .app (cn (aU b) (sA:c=(d.map aV).length) (by(refine aC (m:=2^21) ?_ ?_ ?_<;>omega):small (c+1) 120=true))<|M1 (.obj 2<|aZ 8 true (b+1)<|(d++[f]).map aV) (congrArg (aZ 8 true<|b+1)<|xh (f:=aV) (g:=Go.Ev.eU) (l:=d) (ws:=[f]) aO)<|Kl 1 26 (de a)<|K1 0 (.frz 3 [1,2,3,15,16,17]) (jF (tR 8 true (b+1) 3<|aX gN<|d++[f]) rt rt ti)<|Mf<|i (b+1) (c+1) (d++[f])<|by(refine⟨by simp_all,by simp,?_,?_⟩<;>first|(rw[←hj0.2.2.1];simp;done)|grind)
theorem V3(p:PId)(u:TUnit)(h:By (cX p u) true)(hn:nU u≤2^20)(ht:∀x,x∈bg u→x.head.length<2^30∧x.words.length<2^30):kP 93 [eU u,aK p] (.tuple [eU (eJ p u),.bool true]):=by
  have hw:=Eh p u h hn
  have hlen:=lD (p:=p) u
  have hpos:0<(aA p u).length:=pt.2 (kH h)
  have hm:eJ p u∈bg u:=I9 u _ (QJ h)
  have hf:eJ p u=gD (aA p u) ((aA p u).length -1):=by unfold eJ;simp_all
  have hc:=GD (eJ p u) (bN (dE hm) hn) (fun x hx=>ht x (by
    grind[iH]))
  rw[hf]at hc ⊢
  have hz:=Qa hpos
  exact bu Tryz.func93<|Kp 5 hw<|Kl 2 11 (ln aV<|aA p u)<|Kh 0 hz<|Kl 2 16 (ln aV<|aA p u)<|Kl 0 17 (EY (aA p u).length)<|Mx ((aT aV (oA:(aA p u).length -1<(aA p u).length)).trans<|congrArg some<|aO _)<|Kp 0 hc<|Kf 1<|ba<|cV [aw [iV (gD (aA p u)<|(aA p u).length -1).act,iV (gD (aA p u)<|(aA p u).length -1).item,iV (gD (aA p u)<|(aA p u).length -1).n,iV (gD (aA p u)<|(aA p u).length -1).kind,aj (gD (aA p u)<|(aA p u).length -1).label,aW<|List.map aQ (gD (aA p u)<|(aA p u).length -1).head,aW<|List.map aQ (gD (aA p u)<|(aA p u).length -1).words,aW<|List.map aV (gD (aA p u)<|(aA p u).length -1).kids],eP true]
theorem V5(p:PId)(u:TUnit)(h:By (cX p u) false)(hn:nU u≤2^20):kP 93 [eU u,aK p] (.tuple [eU bv,.bool false]):=by
  have hw:=I8 p u h hn
  exact bu Tryz.func93<|Kp 5 hw<|Kf 7 (ch<|.cons (aL (lc<|lc<|lc<|lc<|lc<|.cons bo<|.cons bo<|.cons bo .nil)<|by kernel_rfl)<|lc .nil:Le _ (cV [aw [iV 0,iV 0,iV 0,iV 0,aj [],aa,aa,aa],eP false]))
theorem QW(p:PId)(u:TUnit)(hn:nU u≤2^20)(ht:∀x,x∈bg u→x.head.length<2^30∧x.words.length<2^30):kP 93 [eU u,aK p] (.tuple [eU (eJ p u),.bool (cX p u)]):=by
  cases h:cX p u with
  |true=>grind[V3]
  | false=>
    have:=V5 p u h hn
    rwa[show bv=eJ p u by unfold eJ;simp_all]at this
theorem Ze(l:List PWord)(g:Nat)(q:PWord→Bool)(hp:∀k,k∈l→kP g [aQ k] (.bool (q k)))(hl:l.length<2^40):kP 322 [.ls (l.map aQ),.func (.func g) [] []] (iV (co q l 0)):=by
  have rr0 b' (h:(co q l 0)=b':=by first|exact j7 zd0 hr0 hj0 ‹_› |exact hj0):=h;exact bu Tryz.func322<|Kl 2 7 (ln aQ l)<|Mg 0<|uy aQ l [0,1,7,8] (fun a _=>([aW<|l.map aQ,bJ (bW g) [] [],nV l.length,nV a],[])) (fun a=>co q l (0:Nat)=co q a (l.length-a.length)) sA (fun _ _ zd0 _ hr0 a hj0=>Kh 0 a<|Kf 0<|li<|rr0 (-1)) fun a _ zd0 _ b c d hr0 e _ f hj0=>Kt 0 e<|Kx 4 f<|Kp 0 (hp b<|by exact aN zd0 hr0)<|Mb (q b) (fun _=>Kf 1<|li<|rr0<|Int.ofNat a) fun _=>Kl 0 18 (de a)<|Kf 0<|d<|by exact ie zd0 hr0 hj0 (by omega)
theorem ZU(l:List PWord)(g:Nat)(q:PWord→Bool)(hp:∀k,k∈l→kP g [aQ k] (.bool (q k)))(hl:l.length<2^40):kP 291 [.ls (l.map aQ),.func (.func g) [] []] (.bool (l.any q)):=by
  have h:=Ze l g q hp hl
  have rr0 b' (h:(l.any q)=b':=by(rw[jY];simp only[aS,ax,bS,pV])):=h;exact bu Tryz.func291<|Kp 2 h<|Kf 1<|cZ<|rr0<|ax<|ap (co q l 0) 0
theorem BG(w:PWord):kP 290 [aQ w] (.bool (oI w)):=by
  exact bu Tryz.func290<|Kv 4 (Fv ((Tryz.prog).underlying 254) w.act w.item w.at_ 0 0 0<|ay [aZ 4 false 0 [aw [aj w.text,iV w.act,iV w.item,iV w.at_]]])<|Kf 0<|ba<|eP<|ax<|ab w.act 0&&(ab w.item 0&&ab w.at_ 0)
theorem Q7(u:TUnit)(h1:u.head.length<2^40)(h2:u.words.length<2^40):kP 289 [eU u] (.bool (Cm u)):=by
  have c1:=ZU u.head 290 oI (fun k _=>BG k) h1
  have c2:=ZU u.words 290 oI (fun k _=>BG k) h2
  have rr0 b' (h:(Cm u)=b':=by(simp only[Cm,fc,bh,bz,bL,aS,ax,bS, *];first|done|rfl)):=h;exact bu Tryz.func289<|Kv 5 (lX ((Tryz.prog).underlying 25) u.act u.item u.n 0 0 0<|ay [aZ 8 false 0 [aw [iV u.act,iV u.item,iV u.n,iV u.kind,aj u.label,aW<|u.head.map aQ,aW<|u.words.map aQ,aW<|u.kids.map aV]]])<|Kb 0 (ab u.act 0&&(ab u.item 0&&ab u.n 0)) (fun a=>Kt 0 a<|Kt 0 a<|Kt 0 a<|Mp c1<|Mt a<|Ku 0 a<|Kn 0 (u.head.any oI) (fun a=>Kt 0 (cW a)<|Kt 0 (cW a)<|Kt 0 (cW a)<|Mp c2<|Mt (cW a)<|Ku 0 (cW a)<|Kf 0<|cZ<|rr0<|ax<|u.words.any oI) fun a=>Mh (cQ a)<|Mh (cQ a)<|Mh (cQ a)<|Mh (cQ a)<|My (cQ a)<|Ky 0<|rr0 false) fun a=>Mh a<|Mh a<|Mh a<|Mh a<|My a<|Ky 2<|rr0 false
theorem Wi(u:TUnit)(h:mU u):kP 254 [eU u] (.bool (G1 u)):=by
  have e1:=xV u h
  have e2:=KV 289 Cm u (fun x hx=>by
      obtain⟨a,b,_⟩:=h.2 x hx
      grind[Q7]) (by have h1:=bd u;have h3:=h.1;omega) (fun x hx=>by
      have h1:=bd x
      have h2:=dE hx
      have h3:=h.1
      omega)
  have rr0 b' (h:(G1 u)=b':=by(simp only[G1,aS,ax,bS, *];first|done|rfl)):=h;exact bu Tryz.func254<|Kp 2 e1<|Kb 0 (kf u) (fun c=>Kt 0 c<|Mp e2<|MV c<|Kf 0<|cZ<|rr0<|vc Cm u) fun c=>Mh c<|My c<|Ky 0<|rr0 false
theorem Lm(p:PId)(u:TUnit)(hh:cX p u=false)(hn:nU u≤2^20):kP 174 [eU u,aK p] (.tuple [aK bL,iV (-1),.bool false]):=by
  have hw:=I8 p u hh hn
  exact bu Tryz.func174<|Kp 6 hw<|Kf 8<|ba<|cV [aw [iV 0,iV 0,iV 0],iV (-1),eP false]
theorem Ll(p:PId)(u:TUnit)(hh:cX p u=true)(hl:ap (Int.ofNat (aA p u).length) 2=true)(hn:nU u≤2^20):kP 174 [eU u,aK p] (.tuple [aK bL,iV (-1),.bool false]):=by
  have hw:=Eh p u hh hn
  exact bu Tryz.func174<|Kp 6 hw<|Kl 2 14 (ln aV<|aA p u)<|Kt 0 hl<|Kf 3<|ba<|cV [aw [iV 0,iV 0,iV 0],iV (-1),eP false]
theorem On(p:PId)(u:TUnit)(h:gM p u=false)(hn:nU u≤2^20):kP 174 [eU u,aK p] (.tuple [aK bL,iV (-1),.bool false]):=by
  grind[Lm,Ll,gM]
theorem Ol(p:PId)(u:TUnit)(h:gM p u=true)(hn:nU u≤2^20):kP 174 [eU u,aK p] (.tuple [aK (rT p u),iV (pS p u),.bool true]):=by
  have hl:ap (Int.ofNat (aA p u).length) 2=false:=by grind[gM]
  have hl2:2≤(aA p u).length:=by have:=aM hl;grind
  have hh:cX p u=true:=by
    cases e:cX p u with
    |true=>rfl
    |false=>grind[PG]
  have hw:=Eh p u hh hn
  have hlen:=lD (p:=p) u
  have hm:Hb p u∈bg u:=I9 u _ (jZ (by omega))
  have hkn:∀k,k∈(Hb p u).kids→nU k≤2^20:=fun k hk=>bN (dE (iH hm (J2 hk))) hn
  have hkl:(Hb p u).kids.length<2^40:=by have:=bd (Hb p u);have:=dE hm;omega
  have hi:=YR (Hb p u).kids 252 p (cX p) (fun k hk=>by
    grind[cX,Ln,Lo]) hkl
  rw[HI h,HL h]
  generalize hG:Hb p u=y at *
  have hG2:gD (aA p u) ((aA p u).length -2)=y:=hG
  have rr0 b' (h:((bz y).a)=b':=by(rw[hG2];rfl)):=h;have rr1 b' (h:((bz y).i)=b':=by(rw[hG2];rfl)):=h;have rr2 b' (h:((bz y).n)=b':=by(rw[hG2];rfl)):=h;exact bu Tryz.func174<|Kp 6 hw<|Kl 2 14 (ln aV<|aA p u)<|Kh 0 hl<|Kl 2 19 (ln aV<|aA p u)<|Kl 0 20 (b0 (x:=Int.ofNat (aA p u).length -(2:Int)) (n:=(aA p u).length -2) fW)<|Mx ((aT aV (oA:(aA p u).length -2<(aA p u).length)).trans<|congrArg some<|aO _)<|Mg 5<|M0 (.ren [2,3,0,1] [] [4,8,24,25])<|M1 (.frz 2 [4,8,24,25]) (cn rt rt ti)<|Mp (aI.onArgs (.cons (cj (by(rw[hG2];done):(y.kids.map aV)=(List.map aV (gD (aA p u) ((aA p u).length -2)).kids)))<|lc .nil) hi:kP 251 [aW (List.map aV (gD (aA p u) ((aA p u).length -2)).kids),bJ (bW 252) [] [AV.pptr [aw [iV p.a,iV p.i,iV p.n]] 0 0]] _)<|Kf 6 (ch<|.cons (aL (.cons (li<|rr0 (gD (aA p u)<|(aA p u).length -2).act)<|.cons (li<|rr1 (gD (aA p u)<|(aA p u).length -2).item)<|.cons (li<|rr2 (gD (aA p u)<|(aA p u).length -2).n) .nil)<|by kernel_rfl)<|lc<|lc .nil:Le _ (cV [aw [iV (gD (aA p u) ((aA p u).length -2)).act,iV (gD (aA p u) ((aA p u).length -2)).item,iV (gD (aA p u) ((aA p u).length -2)).n],iV (co (cX p) y.kids 0),eP true]))
theorem Om(p:PId)(u:TUnit)(hn:nU u≤2^20):kP 174 [eU u,aK p] (.tuple [aK (rT p u),iV (pS p u),.bool (gM p u)]):=by
  grind[gM,Ol,VZ,Ot,On]
theorem YV(p:PId)(u:TUnit)(h:cX p u=false)(hn:nU u≤2^20):kP 238 [eU u,aK p] (.ls ((pg p u).map aK)):=by
  have hw:=I8 p u h hn
  have e:pg p u=[]:=by unfold pg;rw[za h];rfl
  rw[e]
  let q:=[aZ 8 false 0 [aw [iV u.act,iV u.item,iV u.n,iV u.kind,aj u.label,aW (u.head.map aQ),aW (u.words.map aQ),aW (u.kids.map aV)]],aZ 3 false 0 [aw [iV p.a,iV p.i,iV p.n]]];let q1:=[aa,aa,iV (IntKind.i64.wrap (0-2))];exact bu Tryz.func238<|Kp 5 hw<|Mg 4<|WF [5,6,7] (q1,q) True 0 ti fun _ _=>Kf 4 bo
theorem YK(p:PId)(u:TUnit)(h:cX p u=true)(hn:nU u≤2^20):kP 238 [eU u,aK p] (.ls ((pg p u).map aK)):=by
  have hw:=Eh p u h hn
  have hlen:=lD (p:=p) u
  have hpos:0<(aA p u).length:=pt.2 (kH h)
  have hac:=Co p u
  have rr0 b' (h:((pg p u).map aK)=b':=by first|rfl|(rw[RY hx0 ‹_›];rfl)|(rw[RU hx0.2.1 oA ‹_›])):=h;exact bu Tryz.func238<|Kp 5 hw<|Kl 0 6 (fw ((aA p u).map aV) false<|aX gN<|aA p u)<|Kl 1 12 (ln aV<|aA p u)<|Kl 0 13 (Le.wr (x:=Int.ofNat (aA p u).length -2) fW)<|K1 0 (.frz 0 [5,6,7]) ti<|Rc Int Nat Nat (List PId) (Int.ofNat (aA p u).length -2) [5,6,7] (fun a=>([aa,aW<|(aA p u).map aV,iV a],[])) (fun a b c d=>([aG 0 b 0 c none,aW<|(aA p u).map aV,iV a],[aZ 3 true b<|d.map aK])) (fun a=>a=Int.ofNat (aA p u).length -(2:Int)) (fun a _ b c=>b=c.length∧c=oK p u (a+(1:Int)).toNat∧((-1):Int)≤a∧a+(2:Int)≤↑(aA p u).length∧c.length≤(aA p u).length) (fun a=>(a+1).toNat) (fun a _ _ _=>(a+1).toNat) (by rfl) (fun a hx0 _ b=>have hx0:=hx0;Kd 1 a 0 (fun _ _=>Kl 2 20 (Aa (x:=a) oA)<|Mx ((aT aV (gR:a.toNat<(aA p u).length)).trans<|congrArg some<|aO _)<|Kl 6 17 (Le.wr (x:=a-1) fW)<|Kf 0<|b (a-1) 0 1 [PId.mk (gD (aA p u) a.toNat).act (gD (aA p u) a.toNat).item (gD (aA p u) a.toNat).n] (by exact⟨rfl,NK hx0 (by omega),by omega,by grind,by grind⟩) oA) fun _ _=>Kf 1 (Le.lsn<|rr0 []:Le _ (aa))) fun a b c d hx0 _ e=>have hx0:=hx0;Kd 1 a 0 (fun _ _=>Kl 2 20 (Aa (x:=a) oA)<|Mx ((aT aV (oA:a.toNat<(aA p u).length)).trans<|congrArg some<|aO _)<|K1 2 .app (cn (aU b) (sA:c=(d.map aK).length) (by(refine aC (m:=2^21) ?_ ?_ ?_<;>omega):small (c+1) 24=true))<|M1 (.obj 0<|aZ 3 true (b+1)<|(d++[PId.mk (gD (aA p u) a.toNat).act (gD (aA p u) a.toNat).item (gD (aA p u) a.toNat).n]).map aK) (congrArg (aZ 3 true<|b+1)<|dz (f:=aK) (l:=d) (ws:=[PId.mk (gD (aA p u) a.toNat).act (gD (aA p u) a.toNat).item (gD (aA p u) a.toNat).n]))<|Kl 2 17 (Le.wr (x:=a-1) fW)<|Kf 0<|e (a-1) (b+1) (c+1) (d++[PId.mk (gD (aA p u) a.toNat).act (gD (aA p u) a.toNat).item (gD (aA p u) a.toNat).n]) (by exact⟨by simp_all,G7 hx0.2.1 hx0.2.2.2.1 (by omega),by omega,by omega,by(have z:=G7 hx0.2.1 hx0.2.2.2.1 (by omega);grind)⟩) oA) fun _ _=>Mg 1<|M2 (.fsl 0 [] 4<|d.map aK) ti (cn (aU b) (tA aK d c (oA:(d).length=c))<|aX Io d)<|Ml 4 (fw (d.map aK) false<|aX Io d)<|Mf<|cj<|rr0<|d.map aK
theorem G6(p:PId)(u:TUnit)(hn:nU u≤2^20):kP 238 [eU u,aK p] (.ls ((pg p u).map aK)):=by
  grind[YK,YV]
theorem ku(u:TUnit)(s:PStep):kP 98 [eU u,az s] (.bool (bi s u)):=by
  have rr0 b' (h:(bi s u)=b':=by(simp only[bi,aR,aS,ax,bS, *];first|done|rfl)):=h;exact bu Tryz.func98<|Kb 8 (ab u.kind s.kind) (fun a=>Kt 0 a<|Kt 0 a<|Kt 0 a<|Kt 0 a<|Ku 0 a<|Kf 0<|cZ<|rr0<|dR u.label s.label) fun a=>Mh a<|Mh a<|Mh a<|Mh a<|My a<|Ky 0<|rr0 false
noncomputable abbrev jx(p:List PStep):AObj:=.row 1 false 0 [.ls (p.map az)]
noncomputable abbrev DH(ep n:Nat):AObj:=.row 1 false 0 [.slice 2 ep 0 n none]
noncomputable abbrev As(ep:Nat)(l:List TUnit):AObj:=.row 8 true ep (l.map aV)
noncomputable abbrev LH:AObj:=.row 1 false 0 [.nils]
theorem B8(s:PStep)(rs:List PStep)(u:TUnit)(h:By (bi s u) false):kD 97 [eU u,.ptr 0 0 0 0,.ptr 1 0 0 0] (ay [jx (s::rs),LH]) (.tuple []) (ay [jx (s::rs),LH]):=by
  have h':bi s u=false:=h
  exact fq Tryz.func97 fun a=>Kp 4 (ku u s)<|Mh h'<|M1 (.frz 2 []) (cn rt rt ti)<|Mf a
theorem Ik(s:PStep)(rs:List PStep)(u:TUnit)(h:By (bi s u) true):kD 97 [eU u,.ptr 0 0 0 0,.ptr 1 0 0 0] (ay [jx (s::rs),LH]) (.tuple []) (ay [jx (s::rs),DH 0 1,As 0 [u]]):=by
  have h':bi s u=true:=h
  exact K7 Tryz.func97<|Kp 4 (ku u s)<|Mt h'<|Mg 7<|M0 (.ren [0,1,3,2] [] [])<|M1 (.frz 3 []) (jF rt rt rt ti)<|Mf<|et (aU<|cV []) (by(simp only[As,ej,vf,aO];rfl):(ay [AObj.row 1 false 0 [AV.ls ((s::rs).map az)],AObj.row 1 false 0 [AV.slice 2 0 0 1 none],AObj.row 8 true 0 [AV.agg [iV u.act,iV u.item,iV u.n,iV u.kind,AV.str u.label,AV.ls (u.head.map aQ),AV.ls (u.words.map aQ),AV.ls (u.kids.map aV)]]])=(ay [jx (s::rs),DH 0 1,As 0 [u]]))
theorem L9(s:PStep)(rs:List PStep)(u:TUnit)(ep n:Nat)(l:List TUnit)(h:By (bi s u) false):kD 97 [eU u,.ptr 0 0 0 0,.ptr 1 0 0 0] (ay [jx (s::rs),DH ep n,As ep l]) (.tuple []) (ay [jx (s::rs),DH ep n,As ep l]):=by
  have h':bi s u=false:=h
  exact fq Tryz.func97 fun a=>Kp 4 (ku u s)<|Mh h'<|M1 (.frz 3 []) (jF (tR 8 true ep 3<|aX gN l) rt rt ti)<|Mf a
theorem MZ(s:PStep)(rs:List PStep)(u:TUnit)(ep n:Nat)(l:List TUnit)(h:By (bi s u) true)(hn:n=l.length)(hl:l.length<2^30):kD 97 [eU u,.ptr 0 0 0 0,.ptr 1 0 0 0] (ay [jx (s::rs),DH ep n,As ep l]) (.tuple []) (ay [jx (s::rs),DH (ep+1) (n+1),As (ep+1) (l++[u])]):=by
  have h':bi s u=true:=h
  let q:=[iV 0,iV 0,iV 0,iV 0,aj [],aa,aa,aa];let q1:=List.map aV l++[aw q];exact fq Tryz.func97 fun a=>Kp 4 (ku u s)<|Mt h'<|Mg 3<|Mw (.apx q1<|.rix<|.rst (aw q) ((l++[u]).map aV)<|.go 0<|.frz 3 [] .fin)<|V8 rt (iX (tR 8 true ep 4<|aX gN l) rt) (et (pK _ _:([aw q]:List AV)≠[]) rt) (et (cn (aU ep) (sA:n=(l.map aV).length) (by(refine aC (m:=2^31) ?_ ?_ ?_<;>(try simp only[lC,lN])<;>omega):small (n+([AV.agg [iV 0,iV 0,iV 0,iV 0,AV.str [],AV.nils,AV.nils,AV.nils]]).length) 120=true))<|aU q1) (et (aU<|ep+1) (oA:n<n+1)) rt (iX (tR 8 true (ep+1) 4 (by exact UN _ rfl:aq q1=0)) rt) (cn (aU<|ep+1) (O2 (f:=aV) (l:=l) (z:=aw q) (oA:n=(l).length))<|OV (f:=aV) (g:=Go.Ev.eU) aO (l:=l) (z:=aw q) (w:=u) (oA:n=(l).length)) (jF (tR 8 true (ep+1) 3<|aX gN<|l++[u]) rt rt ti) a
theorem Gp(s:PStep)(rs:List PStep):∀(u:TUnit),∀(ep n:Nat)(l:List TUnit),n=l.length→l.length+nU u<2^30→kC 96 [eU u,.func (.func 97) [] [.ptr 0 0 0 0,.ptr 1 0 0 0]] (ay [jx (s::rs),DH ep n,As ep l])
    (fun v h=>∃y:Nat×Nat×List TUnit,(y.2.1=y.2.2.length∧y.2.2=l++kO s u)∧v=.tuple []∧h=ay [jx (s::rs),DH y.1 y.2.1,As y.1 y.2.2]):=by
  refine TUnit.ind fun u ih ep n l hn hl=>?_
  have hq:=iS u
  have hkl:=bd u
  have hp:=yo s u
  rcases Bool.eq_false_or_eq_true (bi s u)with hc|hc
  · rw[hc]at hp
    exact pD Tryz.func96 fun a=>K1 2 (.frz 3 [1,2,6,7]) (jF (tR 8 true ep 3<|aX gN l) rt rt ti)<|Me (MZ s rs u ep n l hc hn oA)<|Kl 2 11 (ln aV u.kids)<|Mg 0<|Ux aV u.kids (ep+1) (n+1) (l++[u]) [1,10,11,12] (fun a _ b c d=>([bJ (bW 97) [] [bY 0 0 0 0,bY 1 0 0 0],aW<|u.kids.map aV,nV u.kids.length,nV a],[aZ 1 false 0 [aW<|(s::rs).map az],aZ 1 false 0 [aG 2 b 0 c none],aZ 8 true b<|d.map aV])) (fun a _ b c=>b=c.length∧c++dQ s a=l++[u]++dQ s u.kids∧c.length+dO a<2^30) gR (fun _ _ b c d _ _ _ e _=>Kh 0 e<|Mf<|a (b,c,d)<|by grind[mf]) fun a _ b c d e f g i j k m _ o _=>have o:=(o).trans<|congrArg some<|aO g;have:=cH (J:=fun a b=>b.2.1=b.2.2.length∧b.2.2++dQ s a=l++[u]++dQ s u.kids∧b.2.2.length+dO a<2^30) (a:=(b,c,d)) k f;have e:=aN e k;have f:d.length+nU g<2^30:=(by grind[bc]);Kt 0 m<|Mx o<|K1 4 (.frz 3 [1,10,11,12,16,17]) (jF (tR 8 true b 3<|aX gN d) rt rt ti)<|Mq (ih g e b c d oA f) fun b _=>Kl 0 19 (de a)<|Kf 0<|j b.1 b.2.1 b.2.2<|by grind[bc,ge,mQ]
  · rw[hc]at hp
    exact pD Tryz.func96 fun a=>K1 2 (.frz 3 [1,2,6,7]) (jF (tR 8 true ep 3<|aX gN l) rt rt ti)<|Me (L9 s rs u ep n l hc)<|Kl 2 11 (ln aV u.kids)<|Mg 0<|Ux aV u.kids ep n l [1,10,11,12] (fun a _ b c d=>([bJ (bW 97) [] [bY 0 0 0 0,bY 1 0 0 0],aW<|u.kids.map aV,nV u.kids.length,nV a],[aZ 1 false 0 [aW<|(s::rs).map az],aZ 1 false 0 [aG 2 b 0 c none],aZ 8 true b<|d.map aV])) (fun a _ b c=>b=c.length∧c++dQ s a=l++dQ s u.kids∧c.length+dO a<2^30) gR (fun _ _ b c d _ _ _ e _=>Kh 0 e<|Mf<|a (b,c,d)<|by grind[mf]) fun a _ b c d e f g i j k m _ o _=>have o:=(o).trans<|congrArg some<|aO g;have:=cH (J:=fun a b=>b.2.1=b.2.2.length∧b.2.2++dQ s a=l++dQ s u.kids∧b.2.2.length+dO a<2^30) (a:=(b,c,d)) k f;have e:=aN e k;have f:d.length+nU g<2^30:=(by grind[bc]);Kt 0 m<|Mx o<|K1 4 (.frz 3 [1,10,11,12,16,17]) (jF (tR 8 true b 3<|aX gN d) rt rt ti)<|Mq (ih g e b c d oA f) fun b _=>Kl 0 19 (de a)<|Kf 0<|j b.1 b.2.1 b.2.2<|by grind[bc,ge,mQ]
theorem Gr(s:PStep)(rs:List PStep):∀(u:TUnit),nU u≤2^20→By (kO s u).isEmpty true→kD 96 [eU u,.func (.func 97) [] [.ptr 0 0 0 0,.ptr 1 0 0 0]] (ay [jx (s::rs),LH]) (.tuple []) (ay [jx (s::rs),LH]):=by
  refine TUnit.ind fun u ih hn he=>?_
  have hkl:=bd u
  have hp:=yo s u
  have he':=List.isEmpty_iff.1 (show(kO s u).isEmpty=true from he)
  rw[he']at hp
  rcases Bool.eq_false_or_eq_true (bi s u)with hc|hc
  · grind
  · rw[hc]at hp
    have hp:dQ s u.kids=[]:=hp.symm
    exact fq Tryz.func96 fun a=>K1 2 (.frz 2 [1,2,6,7]) (cn rt rt ti)<|Me (B8 s rs u hc)<|Kl 2 11 (ln aV u.kids)<|Mg 0<|uy aV u.kids [1,10,11,12] (fun a _=>([bJ (bW 97) [] [bY 0 0 0 0,bY 1 0 0 0],aW<|u.kids.map aV,nV u.kids.length,nV a],[aZ 1 false 0 [aW<|(s::rs).map az],aZ 1 false 0 [aa]])) (fun a=>dQ s a=[]) oA (fun _ _ _ _ _ b _=>Kh 0 b<|Mf a) fun a _ b _ c d e f g _ h i=>have h:=h.trans<|congrArg some<|aO c;have j:=aN b f;have b:=bN (sn<|ib<|aN b f) hn;have f:(kO s c).isEmpty=true:=(by rw[ge]at i;rw[(List.append_eq_nil_iff.1 i).1];rfl);Kt 0 g<|Mx h<|K1 4 (.frz 2 [1,10,11,12,16,17]) (cn rt rt ti)<|Me (ih c j b f)<|Kl 0 19 (de a)<|Kf 0<|e<|by grind[ge]
theorem Qg(s:PStep)(rs:List PStep):∀(u:TUnit),nU u≤2^20→By (kO s u).isEmpty false→kC 96 [eU u,.func (.func 97) [] [.ptr 0 0 0 0,.ptr 1 0 0 0]] (ay [jx (s::rs),LH])
    (fun v h=>∃y:Nat×Nat×List TUnit,(y.2.1=y.2.2.length∧y.2.2=kO s u)∧v=.tuple []∧h=ay [jx (s::rs),DH y.1 y.2.1,As y.1 y.2.2]):=by
  refine TUnit.ind fun u ih hn he=>?_
  have hq:=iS u
  have hkl:=bd u
  have hp:=yo s u
  rcases Bool.eq_false_or_eq_true (bi s u)with hc|hc
  · rw[hc]at hp
    exact pD Tryz.func96 fun a=>K1 2 (.frz 2 [1,2,6,7]) (cn rt rt ti)<|Me (Ik s rs u hc)<|Kl 2 11 (ln aV u.kids)<|Mg 0<|Ux aV u.kids (0:Nat) (1:Nat) ([u]:List TUnit) [1,10,11,12] (fun a _ b c d=>([bJ (bW 97) [] [bY 0 0 0 0,bY 1 0 0 0],aW<|u.kids.map aV,nV u.kids.length,nV a],[aZ 1 false 0 [aW<|(s::rs).map az],aZ 1 false 0 [aG 2 b 0 c none],aZ 8 true b<|d.map aV])) (fun a _ b c=>b=c.length∧c++dQ s a=[u]++dQ s u.kids∧c.length+dO a<2^30) gR (fun _ _ b c d _ _ _ e _=>Kh 0 e<|Mf<|a (b,c,d)<|by grind[mf]) fun a _ b c d e f g i j k l _ m _=>have m:=(m).trans<|congrArg some<|aO g;have:=cH (J:=fun a b=>b.2.1=b.2.2.length∧b.2.2++dQ s a=[u]++dQ s u.kids∧b.2.2.length+dO a<2^30) (a:=(b,c,d)) k f;have:=aN e k;have e:d.length+nU g<2^30:=(by grind[bc]);Kt 0 l<|Mx m<|K1 4 (.frz 3 [1,10,11,12,16,17]) (jF (tR 8 true b 3<|aX gN d) rt rt ti)<|Mq (Gp s rs g b c d oA e) fun b _=>Kl 0 19 (de a)<|Kf 0<|j b.1 b.2.1 b.2.2<|by grind[bc,ge,mQ]
  · rw[hc]at hp
    have hne:dQ s u.kids≠[]:=fun e=>by
      simp_all
    exact pD Tryz.func96 fun a=>K1 2 (.frz 2 [1,2,6,7]) (cn rt rt ti)<|Me (B8 s rs u hc)<|Kl 2 11 (ln aV u.kids)<|Mg 0<|lk Nat Nat (List TUnit) aV u.kids [1,10,11,12] (fun a _=>([bJ (bW 97) [] [bY 0 0 0 0,bY 1 0 0 0],aW<|u.kids.map aV,nV u.kids.length,nV a],[aZ 1 false 0 [aW<|(s::rs).map az],aZ 1 false 0 [aa]])) (fun a _ b c d=>([bJ (bW 97) [] [bY 0 0 0 0,bY 1 0 0 0],aW<|u.kids.map aV,nV u.kids.length,nV a],[aZ 1 false 0 [aW<|(s::rs).map az],aZ 1 false 0 [aG 2 b 0 c none],aZ 8 true b<|d.map aV])) (fun a=>a≠[]∧dQ s a=dQ s u.kids) (fun a _ b c=>b=c.length∧c++dQ s a=dQ s u.kids∧c.length+dO a<2^30) (by(exact⟨Jo rfl hne,rfl⟩)) (fun _ _ _ _ _ _ _=>Mw .abs (sA:False)) (fun a _ b c d f g i j k _ l _=>have l:=(l).trans<|congrArg some<|aO d;have:=cH (J:=fun a _=>a≠[]∧dQ s a=dQ s u.kids) (a:=()) j c;have c:=aN b j;have m:=bN (sn<|ib<|aN b j) hn;have:nU d+dO f≤2^20:=(by have z:=om b j;omega);Kt 0 k<|Mx l<|K1 4 (.frz 2 [1,10,11,12,16,17]) (cn rt rt ti)<|Ms (kO s d).isEmpty (fun b=>Me (Gr s rs d m b)<|Kl 0 19 (de a)<|Kf 0<|g<|by(have e:dQ s f=dQ s u.kids:=(by grind[ge]);exact⟨Jo e hne,e⟩)) fun b=>Mq (ih d c m b) fun b _=>Kl 0 19 (de a)<|Kf 0<|i b.1 b.2.1 b.2.2<|by grind[ge,mQ]) (fun _ _ b c d _ _ _ f g=>Kh 0 f<|Mf<|a (b,c,d)<|by(refine⟨g.1,?_⟩;have:=g.2.1;rw[mf,dr]at this;simp_all)) fun a _ b c d f g i j _ k l m _ n _=>have n:=(n).trans<|congrArg some<|aO i;have:=cH (J:=fun a b=>b.2.1=b.2.2.length∧b.2.2++dQ s a=dQ s u.kids∧b.2.2.length+dO a<2^30) (a:=(b,c,d)) l g;have:=aN f l;have:=bN (sn<|ib<|aN f l) hn;have:nU i+dO j≤2^20:=(by have z:=om f l;omega);Kt 0 m<|Mx n<|K1 4 (.frz 3 [1,10,11,12,16,17]) (jF (tR 8 true b 3<|aX gN d) rt rt ti)<|Mq (Gp s rs i b c d oA<|by grind[bc]) fun b _=>Kl 0 19 (de a)<|Kf 0<|k b.1 b.2.1 b.2.2<|by grind[ge,mQ]
end Go.Proofs.YtiodnhiainjfgaaGreatDoor
