/- Functions walked: what each of them answers, for the law of purposes: part 1. Conditions: those that each theorem names. -/
import Derived.Test.YtidehekfpcgelaaGreatDoorCmb
import Derived.Test.YtidehekfpcgelaaGreatDoorLay
import Derived.Test.YtidehekfpcgelaaGreatDoorLay2
namespace Go.Proofs.YtidehekfpcgelaaGreatDoor
open Go Go.Ev
noncomputable abbrev ce:=@Le.bool
noncomputable abbrev aX:=@AV.ls
noncomputable abbrev ak:=@AV.agg
noncomputable abbrev aj:=@AV.str
noncomputable abbrev bU:=@AV.func
noncomputable abbrev bY:=@Fn.func
noncomputable abbrev fx:=@Le.ps
noncomputable abbrev kg:=@AV.ps
noncomputable abbrev bg:=@Le.refl
noncomputable abbrev eH:=@AV.bool
noncomputable abbrev cD:=@Le.tuple
noncomputable abbrev ca:=@AV.tuple
noncomputable abbrev aa:=@AV.nils
noncomputable abbrev aZ:=@AObj.row
noncomputable abbrev dA:=@Ra
noncomputable abbrev aR:=@AV.ptr
noncomputable abbrev aH:=@AV.slice
noncomputable abbrev bA:=@Le.nils
noncomputable abbrev Ya:=@ARes.val
noncomputable def pS (x:PWord):Bool:=ax (aB 100 (.ofNat x.text.length))
noncomputable def mn (ws:List PWord):Bool:=ws.all pS && ax (aB 300 (.ofNat ws.length))
theorem FB (x:Int):kP 213 [iV x] (.bool false):=by
  have rr0 b' (h:(false)=b':=by simp [bW]):=h;exact wk Tryz.func213 (.go 4 .fin)<|ce<|rr0<|ax<|ab x x
theorem pK (x y:Int):kP 114 [iV x,iV y] (iV (jH x y)):=by
  have rr0 b' (h:(jH x y)=b':=by simp [jH, *]):=h;exact bB Tryz.func114<|Kp 1 (FB x)<|Kp 1 (FB y)<|Kb 7 (aB x y) (fun _=>Kf 0<|li<|rr0 (-1)) fun _=>Kb 2 (aB y x) (fun _=>Kf 0<|li<|rr0 1) fun _=>Kf 0<|li<|rr0 0
theorem EM (ws:List PWord) (hl:ws.length<2 ^ 60):kP 261 [.ls (ws.map aQ)] (.bool (mn ws)):=by
  have rr0 b' (h:(mn ws)=b':=by simp only [mn,pS,aS,ax,bS, *]):=h;exact bB Tryz.func261<|Mg 1<|rf aQ ws [0,3] (fun a _=>([aX<|ws.map aQ,nV a],[])) (fun a=>ws.all pS=a.all pS) (by rfl) (fun _ _ _ _ _ a _=>Kl 2 6 (ln aQ ws)<|Kh 0 a<|Kl 1 18 (ln aQ ws)<|Kf 1<|ce<|rr0<|ax<|aB 300<|Int.ofNat ws.length) fun a _ _ _ b c d _ e _ f _=>Kl 2 6 (ln aQ ws)<|Kt 0 e<|Kx 1 f<|Ka 3 100 (Int.ofNat<|List.length b.text) (fun _ _=>Ky 0<|rr0 false) fun _ _=>Kl 1 9 (dj a)<|Kf 0<|d<|by simp_all [pS]
mutual
noncomputable def kh:TUnit→Bool
  | ⟨_,_,_,_,label,h,w,kids⟩=>ax (aB 30 (.ofNat label.length)) && mn h && mn w && xM kids
noncomputable def xM:List TUnit→Bool
  | []=>true
  | u::r=>kh u && xM r
end
theorem Bq : ∀ (l:List TUnit),xM l=l.all kh
  | []=>by rw [xM];rfl
  | u::r=>by rw [xM,Bq r];rfl
theorem Bz (u:TUnit):kh u=(ax (aB 30 (.ofNat u.label.length)) && mn u.head && mn u.words && u.kids.all kh):=by
  obtain ⟨a,b,c,d,e,f,g,h⟩:=u
  rw [kh,Bq];rfl
theorem Nm : ∀ (u:TUnit),o7 u→kP 185 [eU u] (.bool (kh u)):=by
  refine TUnit.ind fun u ih hf=>?_
  obtain ⟨f1,f2,f3,f4⟩:=lY.1 hf
  have rr0 b' (h:(kh u)=b':=by rw [Bz];simp only [aS,ax,bS, *]):=h;exact bB Tryz.func185<|Ka 6 30 (Int.ofNat<|List.length u.label) (fun a _=>Mt a<|Mt a<|Mt a<|MV a<|Ky 3<|rr0 false) fun a _=>Kh 0 a<|Kh 0 a<|Mp (EM u.head f1)<|Mh a<|Kw 0 a<|Kn 0 (mn u.head) (fun a=>Mt (bT a)<|Mt (bT a)<|Mt (bT a)<|MV (bT a)<|Ky 1<|rr0 false) fun a=>Kh 0 (bN a)<|Kh 0 (bN a)<|Mp (EM u.words f2)<|Mh (bN a)<|Kw 0 (bN a)<|Mn (mn u.words) (fun _=>Ky 0<|rr0 false) fun _=>K1 0 (.frz 0 [1,3]) ti<|rf aV u.kids [1,3] (fun a _=>([AV.pptr [ak [iV u.act,iV u.item,iV u.n,iV u.kind,aj u.label,aX<|u.head.map aQ,aX<|u.words.map aQ,aX<|u.kids.map aV]] 0 0,nV a],[])) (fun a=>u.kids.all kh=a.all kh) (by rfl) (fun _ _ _ _ _ a _=>Kl 3 23 (ln aV u.kids)<|Kh 0 a<|Ky 0<|rr0 true) fun a _ b _ c d e f g _ i _=>have i:=i.trans<|congrArg some<|aA c;Kl 3 23 (ln aV u.kids)<|Kt 0 g<|Kx 2 i<|Kp 0 (ih c (by exact ar b f)<|by exact f4 _ (ar b f))<|Kn 0 (kh c) (fun _=>Kf 0<|ce<|rr0 false) fun _=>Kl 1 26 (dj a)<|Kf 0<|e sA
mutual
noncomputable def mh:TUnit→Int→Int→Int
  | ⟨_,_,_,_,_,_,_,kids⟩,deep,most=>match aB 20 deep with | true=>most+1 | false=>ml kids deep most 1
noncomputable def ml:List TUnit→Int→Int→Int→Int
  | [],_,_,n=>n
  | k::r,deep,most,n=>match aB most n with | true=>n | false=>ml r deep most (n+mh k (deep+1) (most - n))
end
theorem OW (u:TUnit) (deep most:Int):mh u deep most=match aB 20 deep with | true=>most+1 | false=>ml u.kids deep most 1:=by
  obtain ⟨a,b,c,d,e,f,g,h⟩:=u;rw [mh];rfl
mutual
theorem EI : ∀ (u:TUnit) (deep most:Int),0≤most→1≤mh u deep most∧mh u deep most≤most+1
  | ⟨_,_,_,_,_,_,_,kids⟩,deep,most,h=>by
    rw [mh]
    split
    · omega
    · exact EL kids deep most 1 (by omega) (by omega)
theorem EL : ∀ (l:List TUnit) (deep most n:Int),1≤n→n≤most+1→1≤ml l deep most n∧ml l deep most n≤most+1
  | [],_,_,n,h1,h2=>by grind [ml]
  | k::r,deep,most,n,h1,h2=>by
    rw [ml]
    split
    · omega
    · rename_i h
      have:=aL h
      have:=EI k (deep+1) (most - n) (by omega)
      exact EL r deep most _ (by omega) (by omega)
end
theorem RL : ∀ (u:TUnit),o7 u→∀ (deep most:Int),0≤deep→deep≤21→0≤most→most≤2 ^ 20→kP 184 [eU u,iV deep,iV most] (iV (mh u deep most)):=by
  refine TUnit.ind fun u ih hf deep most d1 d2 m1 m2=>?_
  obtain ⟨f1,f2,f3,f4⟩:=lY.1 hf
  have rr0 b' (h:(mh u deep most)=b':=by rw [OW];simp only [ml,aS,ax,bS, *]):=h;exact bB Tryz.func184<|Ka 3 20 deep (fun _ _=>Kl 1 12 (Le.wr (x:=most+1) eO)<|Kf 0<|li<|rr0<|most+1) fun _ _=>K1 1 (.frz 0 [1,2,3,7,8]) ti<|Nv aV u.kids (1:Int) [1,2,3,7,8] (fun a _ b=>([iV deep,iV most,AV.pptr [ak [iV u.act,iV u.item,iV u.n,iV u.kind,aj u.label,aX<|u.head.map aQ,aX<|u.words.map aQ,aX<|u.kids.map aV]] 0 0,iV b,nV a],[])) (fun a b=>(1:Int)≤b∧b≤most+(1:Int)∧ml u.kids deep most (1:Int)=ml a deep most b) oA (fun _ _ a _ _ _ b _=>Kl 3 16 (ln aV u.kids)<|Kh 1 b<|Mh b<|Mh b<|My b<|Kf 2<|li<|rr0 a) fun a _ b c _ d e f g i _ j _=>have j:=j.trans<|congrArg some<|aA d;Kl 3 16 (ln aV u.kids)<|Kt 1 i<|Kt 0 i<|Kt 0 i<|Ku 0 i<|Mn (aB most b) (fun i=>have :=aL i;Kx 3 j<|Kl 2 32 (Le.wr (x:=deep+1) eO)<|Kl 2 35 (Le.wr (x:=most - b) eO)<|Mp (ih d (by exact ar c g) (by exact f4 _ (ar c g)) (deep+1) (most - b) oA oA oA oA)<|have :=EI d (deep+1) (most - b) oA;Kl 0 37 (Le.wr (x:=b+mh d (deep+1) (most - b)) eO)<|Kl 2 24 (dj a)<|Kf 0<|f (b+mh d (deep+1) (most - b))<|by (refine ⟨by omega,by omega,?_⟩;first | rfl | grind [ml])) fun a=>have :=au a;Kf 1<|li<|rr0 b
noncomputable def Gx (u:TUnit) (most:Int):Bool:=ax (aB most (mh u 0 most)) && kh u
theorem Tj (u:TUnit) (most:Int) (hf:o7 u) (m1:0≤most) (m2:most≤2 ^ 20):kP 90 [eU u,iV most] (.bool (Gx u most)):=by
  have rr0 b' (h:(Gx u most)=b':=by simp only [Gx,aS,ax,bS, *]):=h;exact bB Tryz.func90<|Kp 3 (RL u hf 0 most oA oA m1 m2)<|Kn 2 (aB most<|mh u 0 most) (fun a=>Kt 0 (bT a)<|Mp (Nm u hf)<|MV (bT a)<|Kf 0<|ce<|rr0<|kh u) fun a=>Mh (bN a)<|My (bN a)<|Ky 0<|rr0 false
noncomputable def wO (s:aP):Bool:=ax (aB 100 (.ofNat s.length))
noncomputable def wM (s:PStep):Bool:=ax (aB 100 (.ofNat s.label.length))
noncomputable def xn (x:PItem):Bool:=
  ax (aB 12 (.ofNat x.at_.length)) && ax (aB 12 (.ofNat x.to.length)) && ax (aB 300 (.ofNat x.old.length)) && ax (aB 300 (.ofNat x.new.length)) && ax (aB 100 (.ofNat x.label.length)) && ax (aB 100 (.ofNat x.for_.length))
  && ax (aB 100 (.ofNat x.start.event.length)) && ax (aB 100 (.ofNat x.event.length)) && ax (aB 2 (.ofNat x.by_.length)) && Gx x.unit 30
noncomputable def GA (y:PItem):Bool:=aB 0 (.ofNat y.by_.length) && aB 0 (.ofNat (gD y.by_ 0).by_.length)
mutual
noncomputable def mN:PItem→Bool
  | ⟨k,a,t,w,nn,u,o,n,lb,fo,st,ac,it,dy,ev,by_⟩=>xn ⟨k,a,t,w,nn,u,o,n,lb,fo,st,ac,it,dy,ev,by_⟩ && (o.all wO && (n.all wO && (a.all wM && (t.all wM && Gk by_))))
noncomputable def Gk:List PItem→Bool
  | []=>true
  | u::r=>(ax (GA u) && mN u) && Gk r
end
noncomputable def GS (y:PItem):Bool:=ax (GA y) && mN y
theorem Gj : ∀ (l:List PItem),Gk l=l.all GS
  | []=>by rw [Gk];rfl
  | u::r=>by rw [Gk,Gj r];rfl
theorem Dh (x:PItem):mN x=(xn x && (x.old.all wO && (x.new.all wO && (x.at_.all wM && (x.to.all wM && x.by_.all GS))))):=by
  obtain ⟨k,a,t,w,nn,u,o,n,lb,fo,st,ac,it,dy,ev,by_⟩:=x
  rw [mN,Gj];rfl
theorem Tw : ∀ (x:PItem),nQ x→kP 54 [eI x] (.bool (mN x)):=by
  refine PItem.ind fun x ih hf=>?_
  obtain ⟨f1,f2,f3,f4,f5,f6,f7⟩:=qf.1 hf
  have hu:kP 90 [eU x.unit,iV 30] (.bool (Gx x.unit 30)):=Tj x.unit 30 f6 (by omega) (by omega)
  have rr0 b' (h:(mN x)=b':=by rw [Dh,xn];simp only [GS,GA,wO,wM,aS,ax,bS, *]):=h;exact bB Tryz.func54<|Kl 4 10 (ln az x.at_)<|Ka 1 12 (Int.ofNat x.at_.length) (fun a _=>Mt a<|Mt a<|Mt a<|MV a<|Ky 17<|rr0 false) fun a _=>Kh 0 a<|Kh 0 a<|Kl 0 15 (ln az x.to)<|Mh a<|Kw 0 a<|Ka 0 12 (Int.ofNat x.to.length) (fun a _=>Mt a<|Mt a<|Mt a<|MV a<|Ky 15<|rr0 false) fun a _=>Kh 0 a<|Kh 0 a<|Kl 0 21 (ln mT x.old)<|Mh a<|Kw 0 a<|Ka 0 300 (Int.ofNat x.old.length) (fun a _=>Mt a<|Mt a<|Mt a<|MV a<|Ky 13<|rr0 false) fun a _=>Kh 0 a<|Kh 0 a<|Kl 0 27 (ln mT x.new)<|Mh a<|Kw 0 a<|Ka 0 300 (Int.ofNat x.new.length) (fun a _=>Mt a<|Mt a<|Mt a<|MV a<|Ky 11<|rr0 false) fun a _=>Kh 0 a<|Kh 0 a<|Kh 0 a<|Kw 0 a<|Ka 0 100 (Int.ofNat<|List.length x.label) (fun a _=>Mt a<|Mt a<|Mt a<|MV a<|Ky 9<|rr0 false) fun a _=>Kh 0 a<|Kh 0 a<|Kh 0 a<|Kw 0 a<|Ka 0 100 (Int.ofNat<|List.length x.for_) (fun a _=>Mt a<|Mt a<|Mt a<|Mt a<|MV a<|Ky 7<|rr0 false) fun a _=>Kh 0 a<|Kh 0 a<|Kh 0 a<|Kh 0 a<|Kw 0 a<|Ka 0 100 (Int.ofNat<|List.length x.start.event) (fun a _=>Mt a<|Mt a<|Mt a<|MV a<|Ky 5<|rr0 false) fun a _=>Kh 0 a<|Kh 0 a<|Kh 0 a<|Kw 0 a<|Ka 0 100 (Int.ofNat<|List.length x.event) (fun a _=>Mt a<|Mt a<|Mt a<|MV a<|Ky 3<|rr0 false) fun a _=>Kh 0 a<|Kh 0 a<|Kl 0 58 (ln ME x.by_)<|Mh a<|Kw 0 a<|Ka 0 2 (Int.ofNat x.by_.length) (fun a _=>Mt a<|Mt a<|Mt a<|MV a<|Ky 1<|rr0 false) fun a _=>Kh 0 a<|Kh 0 a<|Mp hu<|Mh a<|Kw 0 a<|Mn (Gx x.unit 30) (fun _=>Ky 0<|rr0 false) fun _=>K1 0 (.frz 0 [1,3]) ti<|rf mT x.old [1,3] (fun a _=>([AV.pptr [ak [iV x.kind,aX<|x.at_.map az,aX<|x.to.map az,iV x.where_,iV x.nth_,iV x.unit.act,iV x.unit.item,iV x.unit.n,iV x.unit.kind,aj x.unit.label,aX<|x.unit.head.map aQ,aX<|x.unit.words.map aQ,aX<|x.unit.kids.map aV,aX<|x.old.map mT,aX<|x.new.map mT,aj x.label,aj x.for_,iV x.start.kind,iV x.start.day,aj x.start.event,iV x.act,iV x.item,iV x.day,aj x.event,aX<|x.by_.map ME]] 0 0,nV a],[])) (fun a=>x.old.all wO=a.all wO) (by rfl) (fun _ _ _ _ _ a _=>Kl 3 70 (ln mT x.old)<|Kh 0 a<|Mg 0<|rf mT x.new [1,4] (fun a _=>([AV.pptr [ak [iV x.kind,aX<|x.at_.map az,aX<|x.to.map az,iV x.where_,iV x.nth_,iV x.unit.act,iV x.unit.item,iV x.unit.n,iV x.unit.kind,aj x.unit.label,aX<|x.unit.head.map aQ,aX<|x.unit.words.map aQ,aX<|x.unit.kids.map aV,aX<|x.old.map mT,aX<|x.new.map mT,aj x.label,aj x.for_,iV x.start.kind,iV x.start.day,aj x.start.event,iV x.act,iV x.item,iV x.day,aj x.event,aX<|x.by_.map ME]] 0 0,nV a],[])) (fun a=>x.new.all wO=a.all wO) (by rfl) (fun _ _ _ _ _ a _=>Kl 3 84 (ln mT x.new)<|Kh 0 a<|Mg 0<|rf az x.at_ [1,5] (fun a _=>([AV.pptr [ak [iV x.kind,aX<|x.at_.map az,aX<|x.to.map az,iV x.where_,iV x.nth_,iV x.unit.act,iV x.unit.item,iV x.unit.n,iV x.unit.kind,aj x.unit.label,aX<|x.unit.head.map aQ,aX<|x.unit.words.map aQ,aX<|x.unit.kids.map aV,aX<|x.old.map mT,aX<|x.new.map mT,aj x.label,aj x.for_,iV x.start.kind,iV x.start.day,aj x.start.event,iV x.act,iV x.item,iV x.day,aj x.event,aX<|x.by_.map ME]] 0 0,nV a],[])) (fun a=>x.at_.all wM=a.all wM) (by rfl) (fun _ _ _ _ _ a _=>Kl 3 98 (ln az x.at_)<|Kh 0 a<|Mg 0<|rf az x.to [1,6] (fun a _=>([AV.pptr [ak [iV x.kind,aX<|x.at_.map az,aX<|x.to.map az,iV x.where_,iV x.nth_,iV x.unit.act,iV x.unit.item,iV x.unit.n,iV x.unit.kind,aj x.unit.label,aX<|x.unit.head.map aQ,aX<|x.unit.words.map aQ,aX<|x.unit.kids.map aV,aX<|x.old.map mT,aX<|x.new.map mT,aj x.label,aj x.for_,iV x.start.kind,iV x.start.day,aj x.start.event,iV x.act,iV x.item,iV x.day,aj x.event,aX<|x.by_.map ME]] 0 0,nV a],[])) (fun a=>x.to.all wM=a.all wM) (by rfl) (fun _ _ _ _ _ a _=>Kl 3 113 (ln az x.to)<|Kh 0 a<|Mg 0<|rf ME x.by_ [1,7] (fun a _=>([AV.pptr [ak [iV x.kind,aX<|x.at_.map az,aX<|x.to.map az,iV x.where_,iV x.nth_,iV x.unit.act,iV x.unit.item,iV x.unit.n,iV x.unit.kind,aj x.unit.label,aX<|x.unit.head.map aQ,aX<|x.unit.words.map aQ,aX<|x.unit.kids.map aV,aX<|x.old.map mT,aX<|x.new.map mT,aj x.label,aj x.for_,iV x.start.kind,iV x.start.day,aj x.start.event,iV x.act,iV x.item,iV x.day,aj x.event,aX<|x.by_.map ME]] 0 0,nV a],[])) (fun a=>x.by_.all GS=a.all GS) (by rfl) (fun _ _ _ _ _ a _=>Kl 3 128 (ln ME x.by_)<|Kh 0 a<|Ky 0<|rr0 true) fun a _ b _ c d e f g _ i _=>have i:=i.trans<|congrArg some<|eV c;Kl 3 128 (ln ME x.by_)<|Kt 0 g<|Kx 2 i<|Kl 2 138 (ln ME c.by_)<|Ka 1 0 (Int.ofNat c.by_.length) (fun g _=>Kt 0 g<|Kt 0 g<|Kt 0 g<|Mx i<|Mt g<|Kt 0 g<|Kt 0 g<|Mx ((aT ME (sA:0<(c.by_).length)).trans<|congrArg some<|eV _)<|Mt g<|Kt 0 g<|Kt 0 g<|Kl 0 150 (ln ME (gD c.by_ 0).by_)<|Mt g<|Ku 0 g<|Ka 0 0 (Int.ofNat (gD c.by_ 0).by_.length) (fun a _=>Mt a<|Mt a<|Mt a<|Mt a<|Mt a<|Mt a<|MV a<|Ky 1<|rr0 false) fun g _=>Kh 0 g<|Kh 0 g<|Kh 0 g<|Mx i<|Mh g<|Kh 0 g<|Mp (ih c (by exact ar b f)<|by exact f7 _ (ar b f))<|Mh g<|Kw 0 g<|Mn (mN c) (fun _=>Kf 0<|ce<|rr0 false) fun _=>Kl 1 131 (dj a)<|Kf 0<|e<|by simp_all [GS, GA]) fun g _=>Mh g<|Mh g<|Mh g<|Mh g<|Mh g<|Mh g<|Mh g<|Mh g<|Mh g<|Mh g<|My g<|Kx 3 i<|Kp 0 (ih c (by exact ar b f)<|by exact f7 _ (ar b f))<|Kn 1 (mN c) (fun _=>Kf 0<|ce<|rr0 false) fun _=>Kl 1 131 (dj a)<|Kf 0<|e<|by simp_all [GS, GA]) fun a _ _ _ b c d _ e _ f _=>Kl 3 113 (ln az x.to)<|Kt 0 e<|Kx 2 f<|Ka 3 100 (Int.ofNat<|List.length b.label) (fun _ _=>Ky 0<|rr0 false) fun _ _=>Kl 1 116 (dj a)<|Kf 0<|d<|by simp_all [wM]) fun a _ _ _ b c d _ e _ f _=>Kl 3 98 (ln az x.at_)<|Kt 0 e<|Kx 2 f<|Ka 3 100 (Int.ofNat<|List.length b.label) (fun _ _=>Ky 0<|rr0 false) fun _ _=>Kl 1 101 (dj a)<|Kf 0<|d<|by simp_all [wM]) fun a _ _ _ b c d _ e _ f _=>Kl 3 84 (ln mT x.new)<|Kt 0 e<|Kx 2 f<|Ka 2 100 (Int.ofNat<|List.length b) (fun _ _=>Ky 0<|rr0 false) fun _ _=>Kl 1 87 (dj a)<|Kf 0<|d<|by simp_all [wO]) fun a _ _ _ b c d _ e _ f _=>Kl 3 70 (ln mT x.old)<|Kt 0 e<|Kx 2 f<|Ka 2 100 (Int.ofNat<|List.length b) (fun _ _=>Ky 0<|rr0 false) fun _ _=>Kl 1 73 (dj a)<|Kf 0<|d<|by simp_all [wO]
noncomputable def Ad (most n:Int) (a:PAct):Bool:=aB most (n+Int.ofNat a.items.length) || (aB 100 (Int.ofNat a.title.length) || (aB 60 (Int.ofNat a.start.event.length) || ax (a.items.all mN)))
noncomputable def lI (most:Int):List PAct→Int→Option Int
  | [],n=>some n
  | a::r,n=>match Ad most n a with | true=>none | false=>lI most r (n+Int.ofNat a.items.length)
noncomputable def vq (g:PGaz):Bool:=aB 8 (Int.ofNat g.acts.length) || aB 60 (Int.ofNat g.prior.length)
noncomputable def tH (most:Int):List PGaz→Int→Bool
  | [],_=>true
  | g::r,n=>match vq g with | true=>false | false=>match lI most g.acts n with | none=>false | some m=>tH most r m
noncomputable def Mk (gs:List PGaz) (most:Int):Bool:=match aB 8 (Int.ofNat gs.length) with | true=>false | false=>tH most gs 0
theorem Tv (gs:List PGaz) (most:Int) (hf:pb gs) (m1:0≤most) (m2:most≤2 ^ 20):kP 31 [.ls (gs.map aM),iV most] (.bool (Mk gs most)):=by
  obtain ⟨f0,f1⟩:=hf
  have fa : ∀ g,g∈gs→∀ a,a∈g.acts→a.items.length<2 ^ 60:=fun g hg a ha=>((f1 g hg).2 a ha).1
  have fb : ∀ g,g∈gs→g.acts.length<2 ^ 60:=fun g hg=>(f1 g hg).1
  have rr0 b' (h:(Mk gs most)=b':=by simp only [Mk,tH,vq,lI,Ad,aS,ax,bS, *]):=h;exact bB Tryz.func31<|Kl 2 11 (ln aM gs)<|Ka 0 8 (Int.ofNat gs.length) (fun _ _=>Ky 0<|rr0 false) fun _ _=>Mg 1<|Nv aM gs (0:Int) [0,1,5,6] (fun b _ c=>([aX<|gs.map aM,iV most,iV c,nV b],[])) (fun b c=>(0:Int)≤c∧c≤most∧tH most gs (0:Int)=tH most b c) (by (refine ⟨by omega,by omega,?_⟩;first | rfl | (simp only [tH,vq,lI,aS,ax,bS, *]))) (fun _ _ _ _ _ _ b _=>Kl 2 15 (ln aM gs)<|Kh 0 b<|Ky 0<|rr0 true) fun b _ c d _ e f i j k _ l m=>Kl 2 15 (ln aM gs)<|Kt 0 k<|Kx 1 l<|Kl 2 24 (ln av e.acts)<|Ka 1 8 (Int.ofNat e.acts.length) (fun b _=>Mt b<|Mt b<|Mt b<|Mt b<|Mt b<|Mt b<|MV b<|Ky 1<|rr0 false) fun k _=>Kh 0 k<|Kh 0 k<|Mx l<|Mh k<|Kh 0 k<|Kh 0 k<|Kh 0 k<|Kw 0 k<|Mb (aB 60<|Int.ofNat<|List.length e.prior) (fun b=>have :=au b;Ky 0<|rr0 false) fun k=>have :=aL k;Mg 0<|Nv av e.acts c [0,1,5,6,7] (fun c _ d=>([aX<|gs.map aM,iV most,iV d,nV b,nV c],[])) (fun b d=>(0:Int)≤d∧d≤most∧lI most e.acts c=lI most b d) (by (exact ⟨m.1,m.2.1,rfl⟩)) (fun _ _ c _ _ _ d _=>Kx 2 l<|Kl 2 41 (ln av e.acts)<|Kh 0 d<|Kl 1 18 (dj b)<|Kf 0<|i c<|by (refine ⟨by omega,by omega,?_⟩;first | rfl | (simp only [tH,vq,lI,aS,ax,bS, *]))) fun f _ i k _ m n o p q _ r _=>have :=fa e (ar d j) m<|ar k p;have :=fb e<|ar d j;Kx 2 l<|Kl 2 41 (ln av e.acts)<|Kt 0 q<|Kx 1 l<|Kx 2 r<|Kl 6 56 (ln ME m.items)<|Kl 0 57 (Le.wr (x:=i+Int.ofNat m.items.length) eO)<|Ka 4 most (i+Int.ofNat m.items.length) (fun b _=>Mt b<|Mt b<|Mt b<|MV b<|Ky 3<|rr0 false) fun l _=>Kh 0 l<|Kh 0 l<|Kh 0 l<|Kw 0 l<|Ka 0 100 (Int.ofNat<|List.length m.title) (fun b _=>Mt b<|Mt b<|Mt b<|Mt b<|MV b<|Ky 1<|rr0 false) fun l _=>Kh 0 l<|Kh 0 l<|Kh 0 l<|Kh 0 l<|Kw 0 l<|Mb (aB 60<|Int.ofNat<|List.length m.start.event) (fun b=>have :=au b;Ky 0<|rr0 false) fun l=>have :=aL l;K1 0 (.frz 0 [0,1,5,6,7,8,9]) ti<|rf ME m.items [0,1,5,6,7,8,9] (fun c _=>([aX<|gs.map aM,iV most,iV<|i+Int.ofNat m.items.length,nV b,nV f,AV.pptr [ak [iV m.number,aj m.title,iV m.day,iV m.start.kind,iV m.start.day,aj m.start.event,aX<|m.items.map ME]] 0 0,nV c],[])) (fun b=>m.items.all mN=b.all mN) (by rfl) (fun _ _ _ _ _ b _=>Kl 3 77 (ln ME m.items)<|Kh 0 b<|Kl 1 44 (dj f)<|Kf 0<|o (i+Int.ofNat m.items.length)<|by (refine ⟨by (simp only [oN] at *;omega),by assumption,?_⟩;simp only [lI,Ad,aS,ax,bS, *])) fun b _ c _ e f i l n _ o _=>have o:=o.trans<|congrArg some<|eV e;Kl 3 77 (ln ME m.items)<|Kt 0 n<|Kx 2 o<|Kp 0 (Tw e<|by first | exact ((f1 _ (ar d j)).2 _ (ar k p)).2 _ (ar c l))<|Kn 0 (mN e) (fun _=>Kf 0<|ce<|rr0 false) fun _=>Kl 1 80 (dj b)<|Kf 0<|i<|by simp only [aS,ax,bS, *] at *
noncomputable def MU (gs:List PGaz) (p:aP):Bool:=Mk gs 24 && ax (aB 60 (Int.ofNat p.length))
theorem Tk (gs:List PGaz) (p:aP) (hf:pb gs):kP 10 [.ls (gs.map aM), .str p] (.bool (MU gs p)):=by
  have rr0 b' (h:(MU gs p)=b':=by simp only [MU,aS,ax,bS, *]):=h;exact bB Tryz.func10<|Kp 1 (Tv gs 24 hf oA oA)<|Kb 0 (Mk gs 24) (fun a=>Kt 0 a<|Kt 0 a<|Ku 0 a<|Kf 0<|ce<|rr0<|ax<|aB 60<|Int.ofNat<|List.length p) fun a=>Mh a<|Mh a<|My a<|Ky 0<|rr0 false
theorem YH (l:aP) (g:Nat) (p:UInt8→Bool) (hp : ∀ s,s∈l→kP g [.int .u8 (.ofNat s.toNat)] (.bool (p s))) (hl:l.length<2 ^ 40):kP 374 [.ls (l.map nb), .func (.func g) [] []] (iV (dm p l 0)):=by
  have rr0 b' (h:(dm p l 0)=b':=by first | exact mX zd0 hr0 hj0 ‹_› | exact hj0):=h;exact bB Tryz.func374<|Kl 2 7 (ln nb l)<|Mg 0<|rf nb l [0,1,7,8] (fun a _=>([aX<|l.map nb,bU (bY g) [] [],nV<|List.length l,nV a],[])) (fun a=>dm p l (0:Nat)=dm p a (List.length l - a.length)) sA (fun _ _ zd0 _ hr0 a hj0=>Kh 0 a<|Kf 0<|li<|rr0 (-1)) fun a _ zd0 _ b c d hr0 e _ f hj0=>Kt 0 e<|Kx 4 f<|Kp 0 (hp b<|by exact ar zd0 hr0)<|Mb (p b) (fun _=>Kf 1<|li<|rr0<|Int.ofNat a) fun _=>Kl 0 18 (dj a)<|Kf 0<|d<|by exact kQ zd0 hr0 hj0 (by omega)
theorem YR (l:aP) (g:Nat) (p:UInt8→Bool) (hp : ∀ s,s∈l→kP g [.int .u8 (.ofNat s.toNat)] (.bool (p s))) (hl:l.length<2 ^ 40):kP 353 [.ls (l.map nb), .func (.func g) [] []] (.bool (l.any p)):=by
  have h:=YH l g p hp hl
  have rr0 b' (h:(List.any l p)=b':=by (rw [lJ];simp only [aS,ax,bS,rg])):=h;exact bB Tryz.func353<|Kp 2 h<|Kf 1<|ce<|rr0<|ax<|aB (dm p l 0) 0
theorem Nn (c:UInt8):kP 352 [.int .u8 (.ofNat c.toNat)] (.bool (ax (Ps 33 126 c))):=by
  have rr0 b' (h:(ax (Ps 33 126 c))=b':=by (simp only [Ps,aS,ax,bS,rg, *])):=h;exact bB Tryz.func352<|Kb 3 (aB (Int.ofNat c.toNat) 33) (fun a=>Mt a<|MV a<|Ky 0<|rr0 true) fun a=>Kh 0 a<|Kw 0 a<|Kf 0<|ce<|rr0<|aB 126<|Int.ofNat c.toNat
theorem Ri (s:aP) (hs:s.length≤2 ^ 39):kP 306 [.str s] (.bool (ri s)):=by
  have h:=YR s 352 _ (fun c _=>Nn c) (by omega)
  have rr0 b' (h:(ri s)=b':=by first | (simp only [ri,aS,ax,bS, *];done) | (rw [ri,Qv,List.all_eq_not_any_not];simp only [Dx,aS,ax,bS, *] at *)):=h;let q:=List.map nb s;exact bB Tryz.func306<|Kn 4 (dg s (ByteArray.mk #[]).data.toList) (fun a=>Kt 0 (bT a)<|Kt 0 (bT a)<|Ku 0 (bT a)<|Kn 0 (aB 24<|Int.ofNat<|List.length s) (fun a=>Kt 0 (bT a)<|Mv (TD (s:=s) (H:=ay []) (oA:(s).length≤2 ^ 40))<|Mt (bT a)<|Kt 0 (bT a)<|Mp (aO.onArgs (.cons (fx q _<|aW Ub s)<|lc .nil) h:kP 353 [kg q false,bU (bY 352) [] []] _)<|Mt (bT a)<|Ku 0 (bT a)<|Kf 0<|ce<|rr0<|ax<|List.any s fun a=>ax<|Ps 33 126 a) fun a=>Mh (bN a)<|Mh (bN a)<|Mh (bN a)<|Mh (bN a)<|My (bN a)<|Ky 0<|rr0 false) fun a=>Mh (bN a)<|Mh (bN a)<|My (bN a)<|Ky 2<|rr0 false
theorem YG (l:List aP) (g:Nat) (p:aP→Bool) (hp : ∀ s,s∈l→kP g [.str s] (.bool (p s))) (hl:l.length<2 ^ 40):kP 351 [.ls (l.map mT), .func (.func g) [] []] (iV (dm p l 0)):=by
  have rr0 b' (h:(dm p l 0)=b':=by first | exact mX zd0 hr0 hj0 ‹_› | exact hj0):=h;exact bB Tryz.func351<|Kl 2 7 (ln mT l)<|Mg 0<|rf mT l [0,1,7,8] (fun a _=>([aX<|l.map mT,bU (bY g) [] [],nV l.length,nV a],[])) (fun a=>dm p l (0:Nat)=dm p a (l.length - a.length)) sA (fun _ _ zd0 _ hr0 a hj0=>Kh 0 a<|Kf 0<|li<|rr0 (-1)) fun a _ zd0 _ b c d hr0 e _ f hj0=>Kt 0 e<|Kx 4 f<|Kp 0 (hp b<|by exact ar zd0 hr0)<|Mb (p b) (fun _=>Kf 1<|li<|rr0<|Int.ofNat a) fun _=>Kl 0 18 (dj a)<|Kf 0<|d<|by exact kQ zd0 hr0 hj0 (by omega)
theorem YP (l:List aP) (g:Nat) (p:aP→Bool) (hp : ∀ s,s∈l→kP g [.str s] (.bool (p s))) (hl:l.length<2 ^ 40):kP 304 [.ls (l.map mT), .func (.func g) [] []] (.bool (l.any p)):=by
  have h:=YG l g p hp hl
  have rr0 b' (h:(l.any p)=b':=by (rw [lJ];simp only [aS,ax,bS,rg])):=h;exact bB Tryz.func304<|Kp 2 h<|Kf 1<|ce<|rr0<|ax<|aB (dm p l 0) 0
theorem K8 (s:aP) (hs:s.length≤2 ^ 39):kP 305 [.str s] (.bool (ax (ri s))):=by
  exact bB Tryz.func305<|Kp 1 (Ri s hs)<|Kf 1<|bg<|eH<|ax<|ri s
theorem Jl (l:List aP) (hl:l.length<2 ^ 40) (hs : ∀ s,s∈l→s.length≤2 ^ 39):kP 245 [.ls (l.map mT)] (.bool (qW l)):=by
  have h:=YP l 305 _ (fun s m=>K8 s (hs s m)) hl
  have rr0 b' (h:(qW l)=b':=by first | (simp only [qW,aS,ax,bS, *];done) | (rw [qW,List.all_eq_not_any_not];simp only [aS,ax,bS, *])):=h;exact bB Tryz.func245<|Kl 2 4 (ln mT l)<|Kn 1 (aB 256<|Int.ofNat l.length) (fun a=>Kt 0 (bT a)<|Mp h<|Mt (bT a)<|Ku 0 (bT a)<|Kf 0<|ce<|rr0<|ax<|l.any fun a=>ax<|ri a) fun a=>Mh (bN a)<|Mh (bN a)<|My (bN a)<|Ky 0<|rr0 false
theorem Oh (r:Int):kP 308 [.int .i32 r] (.bool (aB r 48 || aB 57 r)):=by
  have rr0 b' (h:(aB r 48 || aB 57 r)=b':=by (simp only [aS,ax,bS, *])):=h;exact bB Tryz.func308<|Kb 3 (aB r 48) (fun a=>Mt a<|MV a<|Ky 0<|rr0 true) fun a=>Kh 0 a<|Kw 0 a<|Kf 0<|ce<|rr0<|aB 57 r
theorem Sk (r:Int):kP 247 [.int .i32 r] (.bool (aB r 65 || aB 90 r)):=by
  have rr0 b' (h:(aB r 65 || aB 90 r)=b':=by (simp only [aS,ax,bS, *])):=h;exact bB Tryz.func247<|Kb 3 (aB r 65) (fun a=>Mt a<|MV a<|Ky 0<|rr0 true) fun a=>Kh 0 a<|Kw 0 a<|Kf 0<|ce<|rr0<|aB 90 r
theorem HQ (s:PStep):kP 176 [az s] (.bool (ab s.kind 0 && dg s.label [])):=by
  have rr0 b' (h:(ab s.kind 0 && dg s.label [])=b':=by (simp only [aS,ax,bS, *];first | done | rfl)):=h;exact bB Tryz.func176<|Kb 5 (ab s.kind 0) (fun a=>Kt 0 a<|Kt 0 a<|Ku 0 a<|Kf 0<|ce<|rr0<|dg s.label (ByteArray.mk #[]).data.toList) fun a=>Mh a<|Mh a<|My a<|Ky 0<|rr0 false
theorem ur (n a b:Int):kP 172 [iV n,iV a,iV b] (.bool (ax (aB n a) && ax (aB b n))):=by
  have rr0 b' (h:(ax (aB n a) && ax (aB b n))=b':=by (simp only [aS,ax,bS, *])):=h;exact bB Tryz.func172<|Kn 4 (aB n a) (fun c=>Kt 0 (bT c)<|Kt 0 (bT c)<|Ku 0 (bT c)<|Kf 0<|ce<|rr0<|ax<|aB b n) fun c=>Mh (bN c)<|Mh (bN c)<|My (bN c)<|Ky 0<|rr0 false
theorem PB (s:aP):kP 307 [.str s, .func (.func 308) [] []] (iV (bif Nat.beq (eY kK s) s.length then -1 else Int.ofNat (eY kK s))):=
  za iL (Go.Proofs.enters_of Go.Proofs.Tryz.lidxf.f15 (by kernel_rfl) rfl) (Go.Proofs.enters_of Tryz.func308 (by kernel_rfl) rfl)
    (fun s w hp=>Go.Proofs.Any.strings_IndexFunc_grows Go.Proofs.Tryz.lidxf 308 #[] (Go.Proofs.enters_of Tryz.func308 (by kernel_rfl) rfl) _ s w hp) Oh (fun _=>rfl) (GL (lo:=48) (hi:=57) (by omega)) s
theorem PC (s:aP) (h:By (Nat.beq (eY kK s) s.length) true):kP 307 [.str s, .func (.func 308) [] []] (iV (-1)):=by
  have:=PB s
  simp_all
theorem S5 (s:aP) (h:By (Nat.beq (eY kK s) s.length) false):kP 307 [.str s, .func (.func 308) [] []] (nV (eY kK s)):=by
  have:=PB s
  grind
theorem Yj (s:aP):kP 248 [.str s, .func (.func 247) [] []] (.bool (ax (s.all V4))):=
  uq iL (Go.Proofs.enters_of Go.Proofs.Tryz.lconf.f17 (by kernel_rfl) rfl) (Go.Proofs.enters_of Tryz.func247 (by kernel_rfl) rfl)
    (fun s w hp=>Go.Proofs.Any.strings_ContainsFunc_grows Go.Proofs.Tryz.lconf 247 #[] (Go.Proofs.enters_of Tryz.func247 (by kernel_rfl) rfl) _ s w hp) Sk (fun _=>rfl) (GL (lo:=65) (hi:=90) (by omega)) s
theorem Ll (s:aP) (hs:s.length≤2 ^ 39):kP 246 [.str s] (.tuple [.str (s.take (eY kK s)), .str (s.drop (eY kK s))]):=by
  have hl:=Jg (p:=kK) (s:=s)
  have rr0 b' (h:(s.take (eY kK s))=b':=by (rw [px h0];simp)):=h;have rr1 b' (h:(s.drop (eY kK s))=b':=by (rw [px h0];simp)):=h;let q:=AHeap.mk 1000000 Tr.nil;exact bB Tryz.func246<|Ks 2 ((eY kK s).beq<|List.length s) (fun h0=>Mp (PC s h0)<|Kf 6<|cD<|.cons (Le.str<|rr0 s)<|.cons (Le.str<|rr1 []) .nil) fun h0=>Mp (S5 s h0)<|Kv 5 (UD (s:=s) (n:=eY kK s) (k:=IntKind.i64) (H:=q) oA)<|Kv 1 (UC (s:=s) (l:=eY kK s) (k:=IntKind.i64) (H:=q) oA)<|Kf 1<|bg<|ca [aj<|s.take<|eY kK s,aj<|s.drop<|eY kK s]
theorem tg (s:aP) (hs:s.length≤2 ^ 39):kP 167 [.str s] (.bool (j8 s)):=by
  have hd:(s.drop (eY kK s)).length≤2 ^ 39:=by grind
  have rr0 b' (h:(j8 s)=b':=by first | (simp only [j8,aS,ax,bS,rg, *];done) | (simp only [j8,aS,ax,bS,rg, *];rfl) | (unfold j8;simp only [h0,h1,h2];rfl)):=h;exact bB Tryz.func167<|Kp 1 (Ll s hs)<|Kd 9 (Int.ofNat (s.take<|eY kK s).length) 1 (fun h0 _=>Kt 0 (bT h0)<|Kt 0 (bT h0)<|Ku 0 (bT h0)<|Kd 0 4 (Int.ofNat (s.take<|eY kK s).length) (fun h1 _=>Kt 0 (bT h1)<|M1 (.chr<|gD (s.take<|eY kK s) 0) (yG (gR:0<(s.take (eY kK s)).length))<|Mt (bT h1)<|Ku 0 (bT h1)<|Kc 0 (Int.ofNat (gD (s.take<|eY kK s) 0).toNat) 48 (fun h2 _=>Kt 0 (bT h2)<|Kt 0 (bT h2)<|Ku 0 (bT h2)<|Kd 0 3 (Int.ofNat (s.drop<|eY kK s).length) (fun a _=>Kt 0 (bT a)<|Kt 0 (bT a)<|Mp (Yj<|s.drop<|eY kK s)<|Mt (bT a)<|Ku 0 (bT a)<|Kf 0<|ce<|rr0<|ax<|ax<|(s.drop<|eY kK s).all V4) fun a _=>Mh (bN a)<|Mh (bN a)<|Mh (bN a)<|My (bN a)<|Ky 0<|rr0 false) fun h2 _=>Mh (bN h2)<|Mh (bN h2)<|My (bN h2)<|Ky 2<|rr0 false) fun h1 _=>Mh (bN h1)<|Mh (bN h1)<|My (bN h1)<|Ky 4<|rr0 false) fun h0 _=>Mh (bN h0)<|Mh (bN h0)<|My (bN h0)<|Ky 6<|rr0 false
theorem ug (p:List PStep) (hl:p.length<2 ^ 40) (hs : ∀ s,s∈p→s.label.length≤2 ^ 39):kP 81 [.ls (p.map az)] (.bool (kf p)):=by
  have rr0 b' (h:(kf p)=b':=by first | (rw [kf,hj0,T2];rfl) | (rw [kf,DS zd0 hr0 hj0];simp only [m9,s5,‹ab (Int.ofNat zi0) 0=_›,cond_true,cond_false];simp only [Dx,aS,ax,bS, *];first | done | rfl)):=h;exact bB Tryz.func81<|Kl 2 6 (ln az p)<|Mg 0<|rf az p [0,5,6,7] (fun a _=>([aX<|p.map az,aX<|p.map az,nV p.length,nV a],[])) (fun a=>NJ p=G9 p a) (by (exact NW)) (fun zi0 _ zd0 _ hr0 a hj0=>Kh 0 a<|Kl 1 34 (ln az p)<|Kf 1<|ce<|rr0<|ax<|aB 9<|Int.ofNat p.length) fun zi0 _ zd0 _ a b c hr0 d _ e hj0=>Kt 0 d<|Kx 0 e<|Kj 6 (Int.ofNat zi0) 0 (fun d _=>Kt 0 d<|Mp (HQ a)<|MV d<|Mb (ab a.kind 0 && dg a.label []) (fun _=>Kl 0 32 (dj zi0)<|K1 0 (.frz 0 [0,5,6,7]) ti<|Mf<|c<|by (rw [DS zd0 hr0 hj0];simp only [m9,s5,‹ab (Int.ofNat zi0) 0=_›,cond_true,cond_false];simp only [Dx,aS,ax,bS, *];first | done | rfl)) fun _=>Kd 3 0 a.kind (fun a _=>Mt (bT a)<|Mt (bT a)<|MV (bT a)<|Ky 3<|rr0 false) fun d _=>Kh 0 (bN d)<|Kh 0 (bN d)<|Kw 0 (bN d)<|Ka 0 7 a.kind (fun a _=>Mt a<|Mt a<|Mt a<|MV a<|Ky 1<|rr0 false) fun d _=>Kh 0 d<|Kh 0 d<|Mp (tg a.label<|by exact hs _ (ar zd0 hr0))<|Mh d<|Kw 0 d<|Mn (j8 a.label) (fun _=>Kf 0<|ce<|rr0 false) fun _=>Kl 0 32 (dj zi0)<|K1 0 (.frz 0 [0,5,6,7]) ti<|Mf<|c<|by (rw [DS zd0 hr0 hj0];simp only [m9,s5,‹ab (Int.ofNat zi0) 0=_›,cond_true,cond_false];simp only [Dx,aS,ax,bS, *];first | done | rfl)) fun d _=>Mh d<|My d<|Kd 4 0 a.kind (fun a _=>Mt (bT a)<|Mt (bT a)<|MV (bT a)<|Ky 3<|rr0 false) fun d _=>Kh 0 (bN d)<|Kh 0 (bN d)<|Kw 0 (bN d)<|Ka 0 7 a.kind (fun a _=>Mt a<|Mt a<|Mt a<|MV a<|Ky 1<|rr0 false) fun d _=>Kh 0 d<|Kh 0 d<|Mp (tg a.label<|by exact hs _ (ar zd0 hr0))<|Mh d<|Kw 0 d<|Mn (j8 a.label) (fun _=>Kf 0<|ce<|rr0 false) fun _=>Kl 0 32 (dj zi0)<|K1 0 (.frz 0 [0,5,6,7]) ti<|Mf<|c<|by (rw [DS zd0 hr0 hj0];simp only [m9,s5,‹ab (Int.ofNat zi0) 0=_›,cond_true,cond_false];simp only [Dx,aS,ax,bS, *];first | done | rfl)
theorem S4 (l:List Int) (v:Int) (hl:l.length<2 ^ 40):kP 340 [.ls (l.map be),iV v] (iV (dm (ab v) l 0)):=by
  have rr0 b' (h:(dm (ab v) l 0)=b':=by first | exact mX zd0 hr0 hj0 ‹_› | exact hj0):=h;exact bB Tryz.func340<|Kl 2 7 (ln be l)<|Mg 0<|rf be l [0,1,7,8] (fun a _=>([aX<|l.map be,iV v,nV l.length,nV a],[])) (fun a=>dm (ab v) l (0:Nat)=dm (ab v) a (l.length - a.length)) sA (fun _ _ zd0 _ hr0 a hj0=>Kh 0 a<|Kf 0<|li<|rr0 (-1)) fun a _ zd0 _ b c d hr0 e _ f hj0=>Kt 0 e<|Kx 4 f<|Kj 1 v b (fun _ _=>Kf 1<|li<|rr0<|Int.ofNat a) fun _ _=>Kl 0 18 (dj a)<|Kf 0<|d<|by exact kQ zd0 hr0 hj0 (by omega)
theorem rW (l:List Int) (v:Int) (hl:l.length<2 ^ 40):kP 294 [.ls (l.map be),iV v] (.bool (l.any (ab v))):=by
  have h:=S4 l v hl
  have rr0 b' (h:(l.any (ab v))=b':=by (rw [lJ];simp only [aS,ax,bS,rg])):=h;exact bB Tryz.func294<|Kp 2 h<|Kf 1<|ce<|rr0<|ax<|aB (dm (ab v) l 0) 0
theorem PA (v:Int):kP 340 [.nils,iV v] (iV (-1)):=by
  let q:= [aa,iV v,iV 0,iV 0];exact bB Tryz.func340<|Mg 3<|XD [0,1,7,8] (q,[]) True 0 ti fun _ _=>Kf 2<|bg<|iV (-1)
theorem GG (v:Int):kP 294 [.nils,iV v] (.bool false):=by
  have h:=PA v
  exact bB Tryz.func294<|Kp 2 h<|Kf 1<|bg<|eH false
theorem YB:kP 369 [iV 0] (.str (cR 0)):=by
  exact wk Tryz.func369 (.go 11 .fin)<|bg<|aj [98,111,111,107]
theorem YA:kP 369 [iV 1] (.str (cR 1)):=by
  exact wk Tryz.func369 (.go 11 .fin)<|bg<|aj [112,97,114,116]
theorem Yu:kP 369 [iV 2] (.str (cR 2)):=by
  exact wk Tryz.func369 (.go 11 .fin)<|bg<|aj [115,101,99,116,105,111,110]
theorem Yt:kP 369 [iV 3] (.str (cR 3)):=by
  exact wk Tryz.func369 (.go 11 .fin)<|bg<|aj [112,97,114,97,103,114,97,112,104]
theorem Ys:kP 369 [iV 4] (.str (cR 4)):=by
  exact wk Tryz.func369 (.go 11 .fin)<|bg<|aj [116,97,98,108,101]
theorem Yr:kP 369 [iV 5] (.str (cR 5)):=by
  exact wk Tryz.func369 (.go 11 .fin)<|bg<|aj [114,111,119]
theorem Yp:kP 369 [iV 6] (.str (cR 6)):=by
  exact wk Tryz.func369 (.go 11 .fin)<|bg<|aj [99,101,108,108]
theorem Yo:kP 369 [iV 7] (.str (cR 7)):=by
  exact wk Tryz.func369 (.go 11 .fin)<|bg<|aj [110,111,116,101]
theorem Yn (k:Int) (h:k<0∨7<k):kP 369 [iV k] (.str (cR k)):=by
  rw [H9 h]
  have c:aB k 0=true∨(aB k 0=false∧aB k 8=false):=by
    grind [ny, lO]
  rcases c with c | ⟨c,d⟩
  · exact bB Tryz.func369<|Kt 3 c<|Mt c<|MV c<|Kf 1<|bg<|aj []
  · exact bB Tryz.func369<|Kh 3 c<|Kh 0 c<|Kw 0 c<|Mt (bT d)<|Kf 0<|bg<|aj []
theorem wV (k:Int):kP 369 [iV k] (.str (cR k)):=by
  by_cases h:k<0∨7<k
  · grind [Yn]
  · grind [YB, YA, Yu, Yt, Ys, Yr, Yp, Yo]
theorem YS (p k:Int) (h:p<0∨7<p):kP 223 [iV p,iV k] (.bool (jZ p k)):=by
  unfold jZ
  rw [Hc h]
  have c:aB p 0=true∨(aB p 0=false∧aB p 8=false):=by
    grind [ny, lO]
  rcases c with c | ⟨c,d⟩
  · exact bB Tryz.func223<|Kh 3 (bN c)<|Mh (bN c)<|My (bN c)<|Kf 2<|bg<|eH false
  · exact bB Tryz.func223<|Kt 3 (bT c)<|Kt 0 (bT c)<|Ku 0 (bT c)<|Kh 0 d<|Mh d<|Mh d<|Mh d<|Mh d<|My d<|Kf 0<|bg<|eH false
theorem Y6 (k:Int):kP 223 [iV 0,iV k] (.bool (jZ 0 k)):=by
  have h:=rW [1,2] k (by grind)
  let q:= [iV 1,iV 2];exact bB Tryz.func223<|Kp 11 (aO.onArgs (.cons (fx q _<|by rfl)<|lc .nil) h:kP 294 [kg q false,iV k] _)<|Kf 1<|bg<|eH<|[1,2].any<|ab k
theorem Y5 (k:Int):kP 223 [iV 1,iV k] (.bool (jZ 1 k)):=by
  have h:=rW [2] k (by grind)
  let q:= [iV 2];exact bB Tryz.func223<|Kp 11 (aO.onArgs (.cons (fx q _<|by rfl)<|lc .nil) h:kP 294 [kg q false,iV k] _)<|Kf 1<|bg<|eH<|[2].any<|ab k
theorem Y4 (k:Int):kP 223 [iV 2,iV k] (.bool (jZ 2 k)):=by
  have h:=rW [3,4,7] k (by grind)
  let q:= [iV 3,iV 4,iV 7];exact bB Tryz.func223<|Kp 11 (aO.onArgs (.cons (fx q _<|by rfl)<|lc .nil) h:kP 294 [kg q false,iV k] _)<|Kf 1<|bg<|eH<|[3,4,7].any<|ab k
theorem Y3 (k:Int):kP 223 [iV 3,iV k] (.bool (jZ 3 k)):=by
  have h:=rW [3,4,7] k (by grind)
  let q:= [iV 3,iV 4,iV 7];exact bB Tryz.func223<|Kp 11 (aO.onArgs (.cons (fx q _<|by rfl)<|lc .nil) h:kP 294 [kg q false,iV k] _)<|Kf 1<|bg<|eH<|[3,4,7].any<|ab k
theorem Y2 (k:Int):kP 223 [iV 4,iV k] (.bool (jZ 4 k)):=by
  have h:=rW [5] k (by grind)
  let q:= [iV 5];exact bB Tryz.func223<|Kp 11 (aO.onArgs (.cons (fx q _<|by rfl)<|lc .nil) h:kP 294 [kg q false,iV k] _)<|Kf 1<|bg<|eH<|[5].any<|ab k
theorem Y1 (k:Int):kP 223 [iV 5,iV k] (.bool (jZ 5 k)):=by
  have h:=rW [6] k (by grind)
  let q:= [iV 6];exact bB Tryz.func223<|Kp 11 (aO.onArgs (.cons (fx q _<|by rfl)<|lc .nil) h:kP 294 [kg q false,iV k] _)<|Kf 1<|bg<|eH<|[6].any<|ab k
theorem Y0 (k:Int):kP 223 [iV 6,iV k] (.bool (jZ 6 k)):=by
  have h:=GG k
  exact bB Tryz.func223<|Kp 11 h<|Kf 1<|bg<|eH false
theorem YT (k:Int):kP 223 [iV 7,iV k] (.bool (jZ 7 k)):=by
  have h:=GG k
  exact bB Tryz.func223<|Kp 11 h<|Kf 1<|bg<|eH false
theorem yN (p k:Int):kP 223 [iV p,iV k] (.bool (jZ p k)):=by
  by_cases h:p<0∨7<p
  · grind [YS]
  · grind [Y6, Y5, Y4, Y3, Y2, Y1, Y0, YT]
theorem ao {n b m:Nat} (h1:n≤m) (h2:m≤2 ^ 40) (h3:m * b≤2 ^ 40):small n b=true:=by
  unfold small
  have h4:n * b≤m * b:=ef b h1
  grind [Nat.ble_eq_true_of_le]
noncomputable abbrev vG (u:TUnit):AObj:= .row 8 false 0 [eU u]
def Hw (p:PId) (u:TUnit) (x0:Nat × List TUnit × Unit):Prop:=(u.kids).drop x0.1=x0.2.1∧cb p u.kids=cb p x0.2.1
noncomputable def xR (p:PId) (u:TUnit) (x0:Nat × List TUnit × Unit):List AV × List AObj:=([AV.ptr 0 0 0 0,AV.ptr 1 0 0 0,AV.ls (u.kids.map aV),nV u.kids.length,nV x0.1], [AObj.row 8 false 0 [AV.agg [iV u.act,iV u.item,iV u.n,iV u.kind,AV.str u.label,AV.ls (u.head.map aQ),AV.ls (u.words.map aQ),AV.ls (u.kids.map aV)]],AObj.row 3 false 0 [AV.agg [iV p.a,iV p.i,iV p.n]]])
theorem Ei (p:PId) : ∀ (u:TUnit),nU u≤2 ^ 20→(cJ p u=false→kP 86 [eU u,aJ p] .nils)∧(cJ p u=true→kP 86 [eU u,aJ p] (.ps ((aD p u).map aV) false)):=by
  refine TUnit.ind fun u ih hn=>?_
  have ihn : ∀ k,k∈u.kids→By (cJ p k) false→kP 86 [eU k,aJ p] .nils:=fun k hk h=>(ih k hk (bH (pA (gw hk)) hn)).1 h
  have ihy : ∀ k,k∈u.kids→By (cJ p k) true→kP 86 [eU k,aJ p] (.ps ((aD p k).map aV) false):=fun k hk h=>(ih k hk (bH (pA (gw hk)) hn)).2 h
  have hkl:=bK u
  refine ⟨fun hs=>?_,fun hs=>?_⟩
  · let q:= [ak [iV u.act,iV u.item,iV u.n,iV u.kind,aj u.label,aX (u.head.map aQ),aX (u.words.map aQ),aX (u.kids.map aV)]];let q3:= [iV p.a,iV p.i,iV p.n];exact bB Tryz.func86<|Kv 5 (lU ((Tryz.prog).underlying 27) u.act u.item u.n p.a p.i p.n<|ay [aZ 8 false 0 q,aZ 3 false 0 [ak q3]])<|Mb (ab u.act p.a && (ab u.item p.i && ab u.n p.n)) (fun _=>Kf 2<|dA (by exact absurd (hs.symm.trans (Dc ‹_›)) (by grind):(AV.nils)=(AV.ps q true))) fun _=>Kl 2 16 (ln aV u.kids)<|Mg 0<|Ul (0:Nat) u.kids () [2,3,15,16,17] (fun a _ _=>([aR 0 0 0 0,aR 1 0 0 0,aX<|u.kids.map aV,nV u.kids.length,nV a],[aZ 8 false 0 [ak [iV u.act,iV u.item,iV u.n,iV u.kind,aj u.label,aX<|u.head.map aQ,aX<|u.words.map aQ,aX<|u.kids.map aV]],aZ 3 false 0 [ak [iV p.a,iV p.i,iV p.n]]])) (fun a b _=>(u.kids).drop a=b∧cb p u.kids=cb p b) (fun _ a _=>a.length) (et rfl<|by rfl) fun a b c d e=>Mc b (fun a=>have b:=fP d.1 a;have :=ic (J:=fun a _=>cb p u.kids=cb p a) (a:=c) a d.2;Kh 0 b<|Kf 0<|bg aa) fun b f g=>let i:=List.map aV<|[u]++aD p b;have j:=gX d.1 g;have :=au j;have l:=(fO (enc:=aV) d.1 g).trans<|congrArg some<|aA b;have c:=cW (J:=fun a _=>cb p u.kids=cb p a) (a:=c) g d.2;have :nU b<nU u:=gw<|ar d.1 g;have :(aD p b).length≤nU b:=lP b;Kt 0 j<|Mx l<|Ks 4 (cJ p b) (fun a=>Mp (ihy b (by exact ar d.1 g) a)<|Mg 6<|M2 .apl (et (by simp_all [kR]:List.map aV (aD p b)≠ [])<|fw (sz:=8) (f:=aV) (fun _=>by (rw [aA];rfl))<|aD p b) (et (by (refine ao (m:=2 ^ 21) ?_ ?_ ?_ <;> (try simp only [lM,lC,lN]) <;> (have:=lP (p:=p) b;omega)):small (([AV.agg [iV u.act,iV u.item,iV u.n,iV u.kind,AV.str u.label,AV.ls (u.head.map aQ),AV.ls (u.words.map aQ),AV.ls (u.kids.map aV)]]).length+((aD p b).map aV).length) 120=true) rt)<|M1 (.obj 3<|aZ 8 true 0 i) (congrArg (aZ 8 true 0) (by (simp only [pB,ee,vn,aA,eV] <;> rfl):[AV.agg [iV u.act,iV u.item,iV u.n,iV u.kind,AV.str u.label,AV.ls (u.head.map aQ),AV.ls (u.words.map aQ),AV.ls (u.kids.map aV)]]++List.map aV (aD p b)=List.map aV ([u]++aD p b)))<|Mg 0<|M2 (.fsl 0 [] 4 i) ti (cp (aU 0) (tA aV ([u]++aD p b) (q++List.map aV (aD p b)).length (sA:([u]++aD p b).length=([AV.agg [iV u.act,iV u.item,iV u.n,iV u.kind,AV.str u.label,AV.ls (u.head.map aQ),AV.ls (u.words.map aQ),AV.ls (u.kids.map aV)]]++List.map aV (aD p b)).length))<|aW gO<|[u]++aD p b)<|Ml 4 (fx i false<|aW gO<|[u]++aD p b)<|Mf<|dA (by exact absurd (hs.symm.trans (TQ (by assumption) c (by omega))) (by grind):(AV.nils)=(AV.ls i))) fun c=>Mp (ihn b (by exact ar d.1 g) c)<|Kl 4 30 (dj a)<|K1 0 (.frz 2 [2,3,15,16,17]) (cp rt rt ti)<|Mf<|e (a+1) f () (et (bM d.1 g)<|by grind [iF])<|fk g
  · have rr0 : ∀ b',(h:((aD p u).map aV)=b':=by first | rfl | exact absurd (hs.symm.trans (FT (by assumption) hj0)) (by decide) | (rw [sN (by assumption),ee,aA];rfl) | (rw [JX (by assumption) hj0 (by assumption)];rfl))→((aD p u).map aV)=b':=(fun _ h=>h);let q:= [ak [iV u.act,iV u.item,iV u.n,iV u.kind,aj u.label,aX (u.head.map aQ),aX (u.words.map aQ),aX (u.kids.map aV)]];let q3:= [iV p.a,iV p.i,iV p.n];exact bB (hv:=(aW gO (aD p u))) Tryz.func86 (Kv 5 (DR (d:=(Tryz.prog).underlying 27) (n:=3) (l:=(0,1)::(1,1)::(2,1):: []) (xs:= [iV u.act,iV u.item,iV u.n]) (ys:=q3) (H:=ay [aZ 8 false 0 q,aZ 3 false 0 [ak q3]]) rfl (mO (e:=ab u.act p.a) rfl rfl rfl (mO (e:=ab u.item p.i) rfl rfl rfl (zC (e:=ab u.n p.n) rfl rfl rfl rfl)))) (Mb (ab u.act p.a && (ab u.item p.i && ab u.n p.n)) (fun h0=>Kf 2 ((Ry (rr0 q)):Le _ (kg q true))) (fun h0=>Kl 2 16 (Le.len (f:=aV) (l:=u.kids)) (Mg 0 (ML (Nat × List TUnit × Unit) [2,3,15,16,17] (xR p u) (Hw p u) (fun x=>x.2.1.length) (0,u.kids,()) (aU ((xR p u) (0,u.kids,()))) (et (rfl:List.drop 0 (u.kids)=u.kids) (by rfl:(cb p u.kids=cb p u.kids))) (fun x0 hx0 nx0=>Mc x0.2.1 (fun hr0=>have lt0:=fP hx0.1 hr0;have hj0:=ic (J:=fun r x=>cb p u.kids=cb p r) (a:=x0.2.2) hr0 hx0.2;(Kh 0 lt0 (Kf 0 (dA (by exact absurd (hs.symm.trans (FT (by assumption) hj0)) (by grind):(AV.ps ((aD p u).map aV) false)=(AV.nils)))))) (fun w0 r0 hr0=>let q2:=List.map aV ([u]++aD p w0);have lt0:=gX hx0.1 hr0;have glt0:=au lt0;have nt0:=(fO (enc:=aV) hx0.1 hr0).trans (congrArg some (aA w0));have hj0:=cW (J:=fun r x=>cb p u.kids=cb p r) (a:=x0.2.2) hr0 hx0.2;have q0:nU w0<nU u:=gw (ar hx0.1 hr0);have q1:(aD p w0).length≤nU w0:=lP w0;(Kt 0 lt0 (Mx nt0 (Ks 4 (cJ p w0) (fun h2=>Mp (ihy w0 (by exact ar hx0.1 hr0) h2) (Mg 6 (M2 .apl (et (by simp_all [kR]:List.map aV (aD p w0)≠ []) (fw (sz:=8) (f:=aV) (fun _=>by (rw [aA];rfl)) (aD p w0))) (et (by (refine ao (m:=2 ^ 21) ?_ ?_ ?_ <;> (try simp only [lM,lC,lN]) <;> (have:=lP (p:=p) w0;omega)):small (([AV.agg [iV u.act,iV u.item,iV u.n,iV u.kind,AV.str u.label,AV.ls (u.head.map aQ),AV.ls (u.words.map aQ),AV.ls (u.kids.map aV)]]).length+((aD p w0).map aV).length) 120=true) rt) (M1 (.obj 3 (aZ 8 true 0 q2)) (congrArg (aZ 8 true 0) (by (simp only [pB,ee,vn,aA,eV] <;> rfl) : [AV.agg [iV u.act,iV u.item,iV u.n,iV u.kind,AV.str u.label,AV.ls (u.head.map aQ),AV.ls (u.words.map aQ),AV.ls (u.kids.map aV)]]++List.map aV (aD p w0)=List.map aV ([u]++aD p w0))) (Mg 0 (M2 (.fsl 0 [] 4 q2) ti (cp (aU (0)) (CG (f:=aV) (l:= [u]++aD p w0) (n:=(q++List.map aV (aD p w0)).length) (by simp_all:([u]++aD p w0).length=([AV.agg [iV u.act,iV u.item,iV u.n,iV u.kind,AV.str u.label,AV.ls (u.head.map aQ),AV.ls (u.words.map aQ),AV.ls (u.kids.map aV)]]++List.map aV (aD p w0)).length)) (aW gO ([u]++aD p w0))) (Mf ((Ry (rr0 q2)):Le _ (kg q2 false))))))))) (fun h2=>Mp (ihn w0 (by exact ar hx0.1 hr0) h2) (Kl 4 30 (Le.wr (x:=Int.ofNat x0.1+1) eO) (K1 0 (.frz 2 [2,3,15,16,17]) (cp rt rt ti) (Mf (nx0 (x0.1+1,r0,()) (et (bM hx0.1 hr0) (by grind [iF]:(cb p u.kids=cb p r0))) (fk hr0))))))))))))))))
theorem JW (p:PId) (u:TUnit) (h:By (cJ p u) false) (hn:nU u≤2 ^ 20):kP 86 [eU u,aJ p] .nils:=(Ei p u hn).1 h
theorem Eh (p:PId) (u:TUnit) (h:By (cJ p u) true) (hn:nU u≤2 ^ 20):kP 86 [eU u,aJ p] (.ps ((aD p u).map aV) false):=(Ei p u hn).2 h
theorem QF:kP 183 [.nils] .nils:=by
  exact wk Tryz.func183 (.go 4 .fin)<|bg aa
theorem QE:kP 183 [.ps [] false] (.ps [] true):=by
  exact wk Tryz.func183 (.go 7 .fin)<|bg<|kg [] true
theorem QG (w:PWord) (r:List PWord) (hl:r.length<2 ^ 30):kP 183 [.ls ((w::r).map aQ)] (.ls ((w::r).map aQ)):=by
  let q:=List.map aQ (w::r);exact bB Tryz.func183<|Mg 1<|Mz 3 (fun (a:((w::r).map aQ:List AV) = [])=>Mw .abs<|lL _ _ a)<|Mg 3<|M2 .apl (et (sA:List.map aQ (w::r)≠ [])<|fM 4 aQ (w::r) fun _=>rfl) (by (refine ao (m:=2 ^ 31) ?_ ?_ ?_ <;> first | omega | grind):small ((w::r).map aQ).length 40=true)<|Mg 0<|M2 (.fsl 0 [] 2 q) ti (cp (aU 0) (tA aQ (w::r) q.length (sA:(w::r).length=((w::r).map aQ).length))<|aW ig<|w::r)<|Ml 2 (fx q false<|aW ig<|w::r)<|Mf<|bg<|aX q
theorem Lp (p:PId) (u:TUnit) (h:By (cJ p u) false) (hn:nU u≤2 ^ 20):kP 242 [eU u, .pptr [aJ p] 0 0] (.bool false):=by
  have h':cJ p u=false:=h
  exact bB Tryz.func242<|Kp 3 (JW p u h hn)<|Kf 1<|bg<|eH false
theorem Lo (p:PId) (u:TUnit) (h:By (cJ p u) true) (hn:nU u≤2 ^ 20):kP 242 [eU u, .pptr [aJ p] 0 0] (.bool true):=by
  have h':cJ p u=true:=h
  exact bB Tryz.func242<|Kp 3 (Eh p u h hn)<|Kf 1<|bg<|eH true
theorem YE (l:List TUnit) (g:Nat) (q:TUnit→Bool) (hp : ∀ k,k∈l→kP g [eU k] (.bool (q k))) (hl:l.length<2 ^ 40):kP 241 [.ls (l.map aV), .func (.func g) [] []] (iV (dm q l 0)):=by
  have rr0 b' (h:(dm q l 0)=b':=by first | exact mX zd0 hr0 hj0 ‹_› | exact hj0):=h;exact bB Tryz.func241<|Kl 2 7 (ln aV l)<|Mg 0<|rf aV l [0,1,7,8] (fun a _=>([aX<|l.map aV,bU (bY g) [] [],nV l.length,nV a],[])) (fun a=>dm q l (0:Nat)=dm q a (l.length - a.length)) sA (fun _ _ zd0 _ hr0 a hj0=>Kh 0 a<|Kf 0<|li<|rr0 (-1)) fun a _ zd0 _ b c d hr0 e _ f hj0=>have f:=f.trans<|congrArg some<|aA b;Kt 0 e<|Kx 4 f<|Kp 0 (hp b<|by exact ar zd0 hr0)<|Mb (q b) (fun _=>Kf 1<|li<|rr0<|Int.ofNat a) fun _=>Kl 0 18 (dj a)<|Kf 0<|d<|by exact kQ zd0 hr0 hj0 (by omega)
theorem YU (l:List TUnit) (g:Nat) (p:PId) (q:TUnit→Bool) (hp : ∀ k,k∈l→kP g [eU k, .pptr [aJ p] 0 0] (.bool (q k))) (hl:l.length<2 ^ 40):kP 241 [.ls (l.map aV), .func (.func g) [] [.pptr [aJ p] 0 0]] (iV (dm q l 0)):=by
  have rr0 b' (h:(dm q l 0)=b':=by first | exact mX zd0 hr0 hj0 ‹_› | exact hj0):=h;exact bB Tryz.func241<|Kl 2 7 (ln aV l)<|Mg 0<|rf aV l [0,1,7,8] (fun a _=>([aX<|l.map aV,bU (bY g) [] [AV.pptr [ak [iV p.a,iV p.i,iV p.n]] 0 0],nV l.length,nV a],[])) (fun a=>dm q l (0:Nat)=dm q a (l.length - a.length)) sA (fun _ _ zd0 _ hr0 a hj0=>Kh 0 a<|Kf 0<|li<|rr0 (-1)) fun a _ zd0 _ b c d hr0 e _ f hj0=>have f:=f.trans<|congrArg some<|aA b;Kt 0 e<|Kx 4 f<|Kp 0 (hp b<|by exact ar zd0 hr0)<|Mb (q b) (fun _=>Kf 1<|li<|rr0<|Int.ofNat a) fun _=>Kl 0 18 (dj a)<|Kf 0<|d<|by exact kQ zd0 hr0 hj0 (by omega)
theorem Qf {D a:Nat} {w:TUnit} {r:List TUnit} {u:TUnit} (h:D=Nat.max a (ke (w::r))∧a≤2 ^ 20) (q0:nU w<nU u) (q1:m0 w<nU w) (hn:nU u≤2 ^ 20):D=Nat.max (Nat.max a (1+m0 w)) (ke r)∧Nat.max a (1+m0 w)≤2 ^ 20:=by
  grind [ke]
theorem Tm {D a:Nat} (h:D=Nat.max a (ke [])∧a≤2 ^ 20):D=a:=by
  simp_all [Cb]
theorem Gu : ∀ (u:TUnit),nU u≤2 ^ 20→kP 227 [eU u] (nV (m0 u)):=by
  refine TUnit.ind fun u ih hn=>?_
  have hkl:=bK u
  have ihk : ∀ k,k∈u.kids→kP 227 [eU k] (nV (m0 k)):=fun k hk=>ih k hk (bH (pA (gw hk)) hn)
  have rr0 b' (h:(Int.ofNat (m0 u))=b':=by (rw [Km,Tm hj0])):=h;exact bB Tryz.func227<|Kl 5 8 (ln aV u.kids)<|Mg 0<|Nv aV u.kids (0:Nat) [3,7,8,9] (fun a _ b=>([nV b,aX<|u.kids.map aV,nV u.kids.length,nV a],[aZ 8 false 0 [ak [iV u.act,iV u.item,iV u.n,iV u.kind,aj u.label,aX<|u.head.map aQ,aX<|u.words.map aQ,aX<|u.kids.map aV]]])) (fun a b=>ke u.kids=b.max (ke a)∧b≤2 ^ 20) sA (fun _ _ a _ _ _ b hj0=>Kh 0 b<|Kf 1<|li<|rr0<|Int.ofNat a) fun a _ b c d e f g i j _ l _=>have l:=(l).trans<|congrArg some<|aA e;have hj0:=cW (J:=fun a b=>ke u.kids=b.max (ke a)∧b≤2 ^ 20) (a:=b) i d;have d:=gw<|ar c i;have m:=Dr e;Kt 0 j<|Mx l<|Kp 4 (ihk e<|by exact ar c i)<|Kl 0 16 (b6 (x:=(1:Int)+Int.ofNat (m0 e)) (n:=(1:Nat)+m0 e) eO)<|Kl 0 17 (pY (k:=IntKind.i64)<|U9 b<|1+m0 e)<|Kl 1 18 (iK a)<|K1 0 (.frz 1 [3,7,8,9]) (et rt ti)<|Mf<|g (b.max<|1+m0 e)<|by exact Qf hj0 d m hn
theorem Kq (g:Nat) (q:TUnit→Bool) : ∀ (u:TUnit),(∀ x,x∈bx u→kP g [eU x] (.bool (q x)))→u.kids.length<2 ^ 40→(∀ x,x∈bx u→x.kids.length<2 ^ 40)→kP 228 [eU u, .func (.func g) [] []] (.bool (vf q u)):=by
  refine TUnit.ind fun u ih hp hl hk=>?_
  have ihk : ∀ k,k∈u.kids→kP 228 [eU k, .func (.func g) [] []] (.bool (vf q k)):=fun k hm=>ih k hm (fun x hx=>hp x (bh hm hx)) (hk k (J4 hm)) (fun x hx=>hk x (bh hm hx))
  have hs:=hp u (cV u)
  have rr0 b' (h:(vf q u)=b':=by first | (rw [xB];simp only [aS,ax,bS, *];done) | (rw [xB,hj0,NX]) | (rw [xB,hj0,Ab];simp only [aS,ax,bS, *];done)):=h;exact bB Tryz.func228<|Kp 3 hs<|Kn 0 (q u) (fun _=>Ky 0<|rr0 false) fun _=>Kl 2 13 (ln aV u.kids)<|K1 0 (.frz 0 [1,12,13,14]) ti<|rf aV u.kids [1,12,13,14] (fun a _=>([bU (bY g) [] [],aX<|u.kids.map aV,nV u.kids.length,nV a],[])) (fun a=>(q u && (dW u.kids).all q)=(dW a).all q) (by (simp only [aS,ax,bS, *];done)) (fun _ _ _ _ _ a hj0=>Kh 0 a<|Ky 0<|rr0 true) fun a _ b _ c d e f i _ j hj0=>have j:=j.trans<|congrArg some<|aA c;Kt 0 i<|Mx j<|Kp 4 (ihk c<|by exact ar b f)<|Kn 0 (vf q c) (fun _=>Kf 0<|ce<|rr0 false) fun _=>Kl 0 22 (dj a)<|K1 0 (.frz 0 [1,12,13,14]) ti<|Mf<|e<|by simp_all [Ab]
theorem MH (u:TUnit) (n:Nat) (hn:n<2 ^ 40):kD 229 [eU u, .ptr 0 0 0 0] (ay [.row 1 false 0 [nV n]]) (.bool true) (ay [.row 1 false 0 [nV (n+1)]]):=by
  exact gQ Tryz.func229 fun a=>Kl 3 5 (iK n)<|K1 1 (.frz 1 [3]) (et rt ti)<|Mf a
theorem Gw : ∀ (u:TUnit),∀ (n:Nat),n+nU u<2 ^ 40→kD 228 [eU u, .func (.func 229) [] [.ptr 0 0 0 0]] (ay [.row 1 false 0 [nV n]]) (.bool true) (ay [.row 1 false 0 [nV (n+nU u)]]):=by
  refine TUnit.ind fun u ih n hn=>?_
  have hq:=iT u
  have hl:=bK u
  exact Re Tryz.func228<|K1 3 (.frz 1 [1,2,7,8]) (et rt ti)<|Me (MH u n oA)<|Kl 4 13 (ln aV u.kids)<|Mg 0<|Nv aV u.kids (n+1) [1,12,13,14] (fun a _ b=>([bU (bY 229) [] [aR 0 0 0 0],aX<|u.kids.map aV,nV u.kids.length,nV a],[aZ 1 false 0 [nV b]])) (fun a b=>n+nU u=b+dT a∧b+dT a<2 ^ 40) oA (fun _ _ a _ _ _ b _=>Kh 0 b<|Kf 0<|et (aU<|eH true) (by simp_all [l8]:(ay [AObj.row 1 false 0 [nV a]])=(ay [AObj.row 1 false 0 [nV (n+nU u)]]))) fun a _ b c _ d e f g h _ i _=>have i:=i.trans<|congrArg some<|aA d;have c:=ar c g;have g:b+nU d<2 ^ 40:=(by grind [bc]);Kt 0 h<|Mx i<|K1 4 (.frz 1 [1,12,13,14,18,19]) (et rt ti)<|Me (ih d c b g)<|Kl 2 22 (iK a)<|Kf 0<|f (b+nU d)<|by grind [bc]
theorem Dt (u:TUnit) (hn:nU u<2 ^ 39):kP 133 [eU u] (nV (nU u)):=by
  have rr0 b' (h:(Int.ofNat (nU u))=b':=by (rw [gY])):=h;exact bB Tryz.func133<|Mg 5<|M0 (.ren [1,0] [] [3,4,5])<|M1 (.frz 1 [3,4,5]) (et rt ti)<|Me (Gw u 0 oA)<|Kf 1<|li<|rr0<|Int.ofNat<|0+nU u
noncomputable abbrev re (ep n:Nat):AObj:= .row 1 false 0 [.slice 1 ep 0 n none]
noncomputable abbrev Li (ep:Nat) (l:List PId):AObj:= .row 3 true ep (l.map aJ)
theorem Vg (u:TUnit):kD 230 [eU u, .ptr 0 0 0 0] (ay [.row 1 false 0 [.nils]]) (.bool true) (ay [re 0 1,Li 0 [ae u]]):=by
  exact Ym Tryz.func230 (.go 8<|.ren [0,2,1] [] [3]<|.frz 2 [3] .fin) fun a=>et (cp rt rt ti) a
theorem Vh (u:TUnit) (ep n:Nat) (l:List PId) (hn:n=l.length) (hl:l.length<2 ^ 30):kD 230 [eU u, .ptr 0 0 0 0] (ay [re ep n,Li ep l]) (.bool true) (ay [re (ep+1) (n+1),Li (ep+1) (l++ [ae u])]):=by
  exact gQ Tryz.func230 fun a=>K1 5 .app (cp (aU ep) (sA:n=(l.map aJ).length) (by (refine ao (m:=2 ^ 31) ?_ ?_ ?_ <;> omega):small (n+1) 24=true))<|M1 (.obj 1<|aZ 3 true (ep+1)<|(l++ [PId.mk u.act u.item u.n]).map aJ) (congrArg (aZ 3 true<|ep+1)<|cC (f:=aJ) (l:=l) (ws:=[PId.mk u.act u.item u.n]))<|K1 1 (.frz 2 [3]) (cp (tR 3 true (ep+1) 2<|aW zL<|l++ [PId.mk u.act u.item u.n]) rt ti)<|Mf a
theorem Mu : ∀ (u:TUnit),∀ (ep n:Nat) (l:List PId),n=l.length→l.length+nU u<2 ^ 30→kC 228 [eU u, .func (.func 230) [] [.ptr 0 0 0 0]] (ay [re ep n,Li ep l])
    (fun v h=>∃ y:Nat × Nat × List PId,(y.2.1=y.2.2.length∧y.2.2=l++dX u)∧v = .bool true∧h=ay [re y.1 y.2.1,Li y.1 y.2.2]):=by
  refine TUnit.ind fun u ih ep n l hn hl=>?_
  have hq:=iT u
  have hkl:=bK u
  exact pN Tryz.func228 fun a=>K1 3 (.frz 2 [1,2,7,8]) (cp (tR 3 true ep 2<|aW zL l) rt ti)<|Me (Vh u ep n l hn oA)<|Kl 4 13 (ln aV u.kids)<|Mg 0<|Nf aV u.kids (ep+1) (n+1) (l++ [ae u]) [1,12,13,14] (fun a _ b c d=>([bU (bY 230) [] [aR 0 0 0 0],aX<|u.kids.map aV,nV u.kids.length,nV a],[aZ 1 false 0 [aH 1 b 0 c none],aZ 3 true b<|d.map aJ])) (fun a _ b c=>b=c.length∧c++bq a=l++ [ae u]++bq u.kids∧c.length+dT a<2 ^ 30) gR (fun _ _ b c d _ _ _ e _=>Kh 0 e<|Kf 0<|a (b,c,d)<|by grind [mj, gz]) fun a _ b c d e f g i j k m _ o _=>have o:=(o).trans<|congrArg some<|aA g;have :=cW (J:=fun a b=>b.2.1=b.2.2.length∧b.2.2++bq a=l++ [ae u]++bq u.kids∧b.2.2.length+dT a<2 ^ 30) (a:=(b,c,d)) k f;have e:=ar e k;have f:d.length+nU g<2 ^ 30:=(by grind [bc]);Kt 0 m<|Mx o<|K1 4 (.frz 2 [1,12,13,14,18,19]) (cp (tR 3 true b 2<|aW zL d) rt ti)<|Mq (ih g e b c d oA f) fun b _=>Kl 2 22 (dj a)<|Kf 0<|j b.1 b.2.1 b.2.2<|by grind [bc, dO, tG]
theorem UW (l:List PWord) (hl:l.length≤300) (hs : ∀ w,w∈l→w.text.length≤2 ^ 39):kP 373 [.ls (l.map aQ)] (.bool (oa l)):=by
  have hv:=Jl (l.map PWord.text) (by grind) (fun s hm=>by grind)
  have rr0 b' (h:(oa l)=b':=by (simp only [oa,aS,ax,bS, *])):=h;exact bB Tryz.func373<|Kl 3 7 (ln aQ l)<|Mg 0<|jG Nat Nat (List aP) aQ l [0,3,6,7,8] (fun a _=>([aX<|l.map aQ,aa,aX<|l.map aQ,nV l.length,nV a],[])) (fun a _ b c d=>([aX<|l.map aQ,aH 0 b 0 c none,aX<|l.map aQ,nV l.length,nV a],[aZ 1 true b<|d.map mT])) (fun a=>a=l) (fun a _ b c=>b=c.length∧(0:Nat)<c.length∧c++List.map PWord.text a=List.map PWord.text l∧c.length+a.length=l.length) (by rfl) (fun _ _ _ _ _ a _=>Kh 0 a<|Kl 1 19 (ln aQ l)<|Kd 1 256 (Int.ofNat l.length) (fun a _=>Kt 0 (bT a)<|Mp (aO.onArgs (.cons (Le.lsn (sA:((l.map PWord.text).map mT) = [])) .nil) hv:kP 245 [aa] _)<|MV (bT a)<|Kf 0<|ce<|rr0<|qW<|l.map PWord.text) fun a _=>Mh (bN a)<|My (bN a)<|Kf 0<|ce<|rr0 false) (fun a _ _ _ b c _ d _ e _ f g=>Kt 0 e<|Mx f<|Kl 9 17 (iK a)<|Mg 0<|M0 (.ren [1,0] [] [0,3,6,7,8])<|M1 (.frz 1 [0,3,6,7,8]) (et rt ti)<|Mf<|d 0 1 [b.text]<|by (refine ⟨rfl,by simp,?_,?_⟩ <;> (rw [← g]) <;> (first | rfl | grind))) (fun _ _ a b c _ _ _ d _=>Kh 0 d<|Kl 1 19 (ln aQ l)<|Kd 1 256 (Int.ofNat l.length) (fun d _=>Mg 0<|M2 (.fsl 0 [21] 22<|c.map mT) ti (cp (aU a) (tA mT c b (oA:(c).length=b))<|aW Ir c)<|Ml 22 (fx (c.map mT) false<|aW Ir c)<|Mt (bT d)<|Mp (aO.onArgs (.cons (b9 (sA:((l.map PWord.text).map mT)=(c.map mT))) .nil) hv:kP 245 [aX (c.map mT)] _)<|MV (bT d)<|Kf 0<|ce<|rr0<|qW<|l.map PWord.text) fun a _=>Mh (bN a)<|My (bN a)<|Kf 0<|ce<|rr0 false) fun a _ b c d _ _ e f _ g _ i _ j k=>Kt 0 i<|Mx j<|K1 6 .app (cp (aU b) (sA:c=(d.map mT).length) (by (refine ao (m:=2 ^ 20) ?_ ?_ ?_ <;> omega):small (c+1) 16=true))<|M1 (.obj 0<|aZ 1 true (b+1)<|(d++ [e.text]).map mT) (congrArg (aZ 1 true<|b+1)<|cC (f:=mT) (l:=d) (ws:=[e.text]))<|Kl 1 17 (iK a)<|K1 0 (.frz 1 [0,3,6,7,8]) (et (tR 1 true (b+1) 1<|aW Ir<|d++ [e.text]) ti)<|Mf<|g (b+1) (c+1) (d++ [e.text])<|by (refine ⟨by simp_all,by simp,?_,?_⟩ <;> first | (rw [← k.2.2.1];simp;done) | grind)
theorem oH (a b:Nat):Int.ofNat (a+b)=Int.ofNat a+Int.ofNat b:=rfl
theorem RV (u:TUnit) (h1:u.head.length≤300) (h2:u.words.length≤300) (h3:u.kids.length<2 ^ 30) (h4:u.label.length≤2 ^ 39) (h5 : ∀ w,w∈u.head→w.text.length≤2 ^ 39) (h6 : ∀ w,w∈u.words→w.text.length≤2 ^ 39):kP 348 [eU u] (.bool (lG u)):=by
  have hlk : ∀ (m:List ((Int × aP) × Bool)) (a:Int) (s:aP),eF (some (.bool false)) false (bv true 2 [(0,1),(1,2)] (.agg [iV a, .str s]) (b8 pc dY m 0) 0)=some (.bool (Nb mP (a,s) m)):=fun m a s=>Fg J5 m (a,s)
  have hup : ∀ (m:List ((Int × aP) × Bool)) (a:Int) (s:aP),rk (b8 pc dY m 0) m.length (.agg [iV a, .str s]) (.bool true) (bv true 2 [(0,1),(1,2)] (.agg [iV a, .str s]) (b8 pc dY m 0) 0)=some (b8 pc dY (fe mP (a,s) true m) 0,(fe mP (a,s) true m).length):=fun m a s=>JK J5 m (a,s)
  have r1:=UW u.head h1 h5
  have r2:=UW u.words h2 h6
  have r3:=tg u.label h4
  have rr0 b' (h:(lG u)=b':=by first | (rw [lG,hj0,mH];simp only [Dx,bW,oH,cond_true,cond_false,aS,ax,bS,vu,Bool.false_and,Bool.not_true,A9,Bool.true_and, *];first | done | rfl) | (simp only [lG,Dx,bW,oH,cond_true,cond_false,aS,ax,bS, *];done) | (simp only [lG,mH,Dx,bW,oH,cond_true,cond_false,aS,ax,bS, *];done) | (simp only [lG,mH,Dx,bW,oH,cond_true,cond_false,aS,ax,bS,vu,Bool.false_and,Bool.not_true,A9,Bool.true_and, *];first | done | rfl)):=h;exact bB Tryz.func348<|Kj 4 u.kind 0 (fun _ b=>Kn 3 (dg u.label (ByteArray.mk #[]).data.toList) (fun b=>Mt (bT b)<|Mt (bT b)<|Mt (bT b)<|Mt (bT b)<|Mt (bT b)<|Mt (bT b)<|Mt (bT b)<|MV (bT b)<|Ky 1<|rr0 false) fun c=>Kh 0 (bN c)<|Kh 0 (bN c)<|Kl 0 16 (ln aQ u.head)<|Mh (bN c)<|Kh 0 (bN c)<|Kh 0 (bN c)<|Kl 0 19 (ln aQ u.words)<|Mh (bN c)<|Kl 0 20 (Le.wr (x:=Int.ofNat u.head.length+Int.ofNat u.words.length) eO)<|Mh (bN c)<|Kw 0 (bN c)<|Mb (aB 0<|Int.ofNat u.head.length+Int.ofNat u.words.length) (fun b=>have :=au b;Ky 0<|rr0 false) fun c=>have :=aL c;Kl 4 48 (ln aV u.kids)<|Mg 0<|Nv aV u.kids ([]:List ((Int × aP) × Bool)) [1,3,47,48,49] (fun b _ c=>([aR 0 0 0 0,AV.map 1,aX<|u.kids.map aV,nV u.kids.length,nV b],[aZ 8 false 0 [ak [iV u.act,iV u.item,iV u.n,iV u.kind,aj u.label,aX<|u.head.map aQ,aX<|u.words.map aQ,aX<|u.kids.map aV]],AObj.map (b8 pc dY c 0) c.length])) (fun b c=>mH u.kind u.kids []=mH u.kind b c) (by rfl) (fun _ _ _ _ _ _ b hj0=>Kh 0 b<|Kl 2 74 (ln aV u.kids)<|Kf 1<|ce<|rr0<|ax<|aB 64<|Int.ofNat u.kids.length) fun c _ d _ _ e f g _ i _ j hj0=>have j:=j.trans<|congrArg some<|aA e;Kt 0 i<|Mx j<|Kl 11 59 (pY (k:=IntKind.i64) b)<|Kp 1 (yN 0 e.kind)<|Kn 1 (jZ 0 e.kind) (fun b=>Mt (bT b)<|Mt (bT b)<|MV (bT b)<|Ky 1<|rr0 false) fun b=>Kh 0 (bN b)<|Kh 0 (bN b)<|M1 (.look<|eH<|Nb mP (e.kind,e.label) d) (hlk d e.kind e.label)<|My (bN b)<|Mb (Nb mP (e.kind,e.label) d) (fun _=>Kf 0<|ce<|rr0 false) fun _=>K1 1 (.upd (b8 pc dY (fe mP (e.kind,e.label) true d) 0) (fe mP (e.kind,e.label) true d).length) (hup d e.kind e.label)<|Kl 0 71 (dj c)<|K1 0 (.frz 2 [1,3,47,48,49]) (cp (tM (fe mP (e.kind,e.label) true d).length 2 (by exact cK J5 zM _ _:fZ (b8 pc dY (fe mP (e.kind,e.label) true d) 0)=0)) rt ti)<|Mf<|g (fe mP (e.kind,e.label) true d)<|by (rw [hj0,mH];simp only [aS,ax,bS, *];done)) fun _ _=>Kp 1 (wV u.kind)<|Kb 1 (dg (cR u.kind) (ByteArray.mk #[]).data.toList) (fun b=>Mt b<|Mt b<|Mt b<|MV b<|Ky 5<|rr0 false) fun b=>Kh 0 b<|Kh 0 b<|Mp r3<|Mh b<|Kw 0 b<|Kn 0 (j8 u.label) (fun b=>Mt (bT b)<|Mt (bT b)<|Mt (bT b)<|MV (bT b)<|Ky 3<|rr0 false) fun b=>Kh 0 (bN b)<|Kh 0 (bN b)<|Mp r1<|Mh (bN b)<|Kw 0 (bN b)<|Kn 0 (oa u.head) (fun b=>Mt (bT b)<|Mt (bT b)<|Mt (bT b)<|MV (bT b)<|Ky 1<|rr0 false) fun b=>Kh 0 (bN b)<|Kh 0 (bN b)<|Mp r2<|Mh (bN b)<|Kw 0 (bN b)<|Mn (oa u.words) (fun _=>Ky 0<|rr0 false) fun _=>Kl 4 48 (ln aV u.kids)<|Mg 0<|Nv aV u.kids ([]:List ((Int × aP) × Bool)) [1,3,47,48,49] (fun b _ c=>([aR 0 0 0 0,AV.map 1,aX<|u.kids.map aV,nV u.kids.length,nV b],[aZ 8 false 0 [ak [iV u.act,iV u.item,iV u.n,iV u.kind,aj u.label,aX<|u.head.map aQ,aX<|u.words.map aQ,aX<|u.kids.map aV]],AObj.map (b8 pc dY c 0) c.length])) (fun b c=>mH u.kind u.kids []=mH u.kind b c) (by rfl) (fun _ _ _ _ _ _ b hj0=>Kh 0 b<|Kl 2 74 (ln aV u.kids)<|Kf 1<|ce<|rr0<|ax<|aB 64<|Int.ofNat u.kids.length) fun b _ c _ _ d e f _ g _ i hj0=>have i:=i.trans<|congrArg some<|aA d;Kt 0 g<|Mx i<|Kp 13 (yN u.kind d.kind)<|Kn 1 (jZ u.kind d.kind) (fun b=>Mt (bT b)<|Mt (bT b)<|MV (bT b)<|Ky 1<|rr0 false) fun g=>Kh 0 (bN g)<|Kh 0 (bN g)<|M1 (.look<|eH<|Nb mP (d.kind,d.label) c) (hlk c d.kind d.label)<|My (bN g)<|Mb (Nb mP (d.kind,d.label) c) (fun _=>Kf 0<|ce<|rr0 false) fun _=>K1 1 (.upd (b8 pc dY (fe mP (d.kind,d.label) true c) 0) (fe mP (d.kind,d.label) true c).length) (hup c d.kind d.label)<|Kl 0 71 (dj b)<|K1 0 (.frz 2 [1,3,47,48,49]) (cp (tM (fe mP (d.kind,d.label) true c).length 2 (by exact cK J5 zM _ _:fZ (b8 pc dY (fe mP (d.kind,d.label) true c) 0)=0)) rt ti)<|Mf<|f (fe mP (d.kind,d.label) true c)<|by (rw [hj0,mH];simp only [aS,ax,bS, *];done)
theorem Ic (u:TUnit) (hl:nU u<2 ^ 29):kC 228 [eU u, .func (.func 230) [] [.ptr 0 0 0 0]] (ay [.row 1 false 0 [.nils]])
    (fun v h=>∃ y:Nat × Nat × List PId,(y.2.1=y.2.2.length∧y.2.2=dX u)∧v = .bool true∧h=ay [re y.1 y.2.1,Li y.1 y.2.2]):=by
  have hq:=iT u
  have hkl:=bK u
  exact pN Tryz.func228 fun a=>K1 3 (.frz 1 [1,2,7,8]) (et rt ti)<|Me (Vg u)<|Kl 4 13 (ln aV u.kids)<|Mg 0<|Nf aV u.kids (0:Nat) (1:Nat) ([ae u]:List PId) [1,12,13,14] (fun a _ b c d=>([bU (bY 230) [] [aR 0 0 0 0],aX<|u.kids.map aV,nV u.kids.length,nV a],[aZ 1 false 0 [aH 1 b 0 c none],aZ 3 true b<|d.map aJ])) (fun a _ b c=>b=c.length∧c++bq a= [ae u]++bq u.kids∧c.length+dT a<2 ^ 30) gR (fun _ _ b c d _ _ _ e f=>Kh 0 e<|Kf 0<|a (b,c,d)<|by (refine ⟨f.1,?_⟩;have:=f.2.1;rw [mj,dB] at this;rw [this,gz];rfl)) fun a _ b c d e f g i j k l _ m _=>have m:=(m).trans<|congrArg some<|aA g;have :=cW (J:=fun a b=>b.2.1=b.2.2.length∧b.2.2++bq a= [ae u]++bq u.kids∧b.2.2.length+dT a<2 ^ 30) (a:=(b,c,d)) k f;have :=ar e k;have e:d.length+nU g<2 ^ 30:=(by grind [bc]);Kt 0 l<|Mx m<|K1 4 (.frz 2 [1,12,13,14,18,19]) (cp (tR 3 true b 2<|aW zL d) rt ti)<|Mq (Mu g b c d oA e) fun b _=>Kl 2 22 (dj a)<|Kf 0<|j b.1 b.2.1 b.2.2<|by grind [bc, dO, tG]
theorem PD (u:TUnit) (hl:nU u<2 ^ 29):kP 134 [eU u] (.ls ((dX u).map aJ)):=by
  have rr0 b' (h:((dX u).map aJ)=b':=by (rw [hy0.2])):=h;exact bB Tryz.func134<|Mg 4<|M0 (.ren [1,0] [] [3,4,5])<|M1 (.frz 1 [3,4,5]) (et rt ti)<|Mq (Ic u hl) fun a hy0=>Mg 1<|M2 (.fsl 0 [] 2<|a.2.2.map aJ) ti (cp (aU a.1) (tA aJ a.2.2 a.2.1 (oA:(a.2.2).length=a.2.1))<|aW zL a.2.2)<|Ml 2 (fx (a.2.2.map aJ) false<|aW zL a.2.2)<|Mf<|b9<|rr0<|a.2.2.map aJ
theorem Vf (u:TUnit) (hl:nU u<2 ^ 20):kP 349 [eU u] (.bool (PE u)):=by
  have hb:(dX u).length<2 ^ 20:=by grind [tG]
  have hi:=PD u (by omega)
  have hlk : ∀ (m:List (PId × Bool)) (a b c:Int),eF (some (.bool false)) false (bv true 3 [(0,1),(1,1),(2,1)] (.agg [iV a,iV b,iV c]) (b8 aJ dY m 0) 0)=some (.bool (Nb bb ⟨a,b,c⟩ m)):=fun m a b c=>Fg IW m ⟨a,b,c⟩
  have hup : ∀ (m:List (PId × Bool)) (a b c:Int),rk (b8 aJ dY m 0) m.length (.agg [iV a,iV b,iV c]) (.bool true) (bv true 3 [(0,1),(1,1),(2,1)] (.agg [iV a,iV b,iV c]) (b8 aJ dY m 0) 0)=some (b8 aJ dY (fe bb ⟨a,b,c⟩ true m) 0,(fe bb ⟨a,b,c⟩ true m).length):=fun m a b c=>JK IW m ⟨a,b,c⟩
  have rr0 b' (h:(PE u)=b':=by ((try clear gh1);(try clear gh2);(try clear gh3);(try clear gh4);(try clear gh5);(try clear gh6);(try clear gh7);have e:=Cv (kenc:=aJ) (f:=dY) za0 0;simp only [e,lM] at *;simp only [PE,fT,bb,ae,bL,hj0,Lq,aS,ax,bS, *];first | done | rfl)):=h;exact bB Tryz.func349<|Kp 2 hi<|Kl 4 12 (ln aJ<|dX u)<|Mg 0<|Nv aJ (dX u) ([]:List (PId × Bool)) [1,3,4,11,12,13] (fun d _ g=>([aR 0 0 0 0,aX<|(dX u).map aJ,AV.map 1,aX<|(dX u).map aJ,nV (dX u).length,nV d],[aZ 8 false 0 [ak [iV u.act,iV u.item,iV u.n,iV u.kind,aj u.label,aX<|u.head.map aQ,aX<|u.words.map aQ,aX<|u.kids.map aV]],AObj.map (b8 aJ dY g 0) g.length])) (fun d g=>Bm (dX u) []=Bm d g) (by rfl) (fun _ _ za0 _ _ _ d hj0=>Kh 0 d<|K1 1 (.look<|eH<|Nb bb (PId.mk 0 0 0) za0) (hlk za0 0 0 0)<|Kb 2 (Nb bb (PId.mk 0 0 0) za0) (fun d=>Kt 0 d<|Kt 0 d<|Ku 0 d<|Kj 0 (Int.ofNat (b8 aJ dY za0 0).length) 1 (fun d gh2=>Mt d<|Mt d<|Mt d<|Mt d<|Mt d<|Mt d<|MV d<|Ky 0<|rr0 true) fun d gh2=>Kh 0 d<|Kh 0 d<|Kh 0 d<|Kh 0 d<|Kh 0 d<|Kj 0 (Int.ofNat (b8 aJ dY za0 0).length) (Int.ofNat ((dX u).map aJ).length) (fun g gh3=>Kt 0 g<|Kt 0 g<|Kt 0 g<|Kt 0 g<|Kt 0 g<|Kt 0 g<|Mv (lU ((Tryz.prog).underlying 27) u.act u.item u.n 0 0 0 h0)<|Mt g<|Kh 0 d<|MV g<|My d<|Kf 0<|ce<|rr0<|ab u.kind 0==(ab u.act 0 && (ab u.item 0 && ab u.n 0))) fun g gh3=>Mh g<|Mh g<|Mh g<|Mh g<|Mh g<|Mh g<|Mh g<|Mh d<|My g<|My d<|Ky 0<|rr0 false) fun d=>Mh d<|Mh d<|My d<|Kj 6 (Int.ofNat (b8 aJ dY za0 0).length) (Int.ofNat ((dX u).map aJ).length) (fun d gh4=>Kt 0 d<|Kt 0 d<|Kt 0 d<|Kt 0 d<|Kt 0 d<|Kt 0 d<|Mv (lU ((Tryz.prog).underlying 27) u.act u.item u.n 0 0 0 h0)<|Mt d<|Ku 0 d<|Kf 1<|ce<|rr0<|ab u.kind 0==(ab u.act 0 && (ab u.item 0 && ab u.n 0))) fun d gh4=>Mh d<|Mh d<|Mh d<|Mh d<|Mh d<|Mh d<|Mh d<|My d<|Ky 1<|rr0 false) fun d _ za0 _ _ g i j _ k _ l hj0=>Kt 0 k<|Mx l<|K1 4 (.upd (b8 aJ dY (fe bb (PId.mk g.a g.i g.n) true za0) 0) (fe bb (PId.mk g.a g.i g.n) true za0).length) (hup za0 g.a g.i g.n)<|Kl 0 19 (iK d)<|K1 0 (.frz 2 [1,3,4,11,12,13]) (cp (tM (fe bb (PId.mk g.a g.i g.n) true za0).length 2 (by exact cK IW zM _ _:fZ (b8 aJ dY (fe bb (PId.mk g.a g.i g.n) true za0) 0)=0)) rt ti)<|Mf<|j (fe bb (PId.mk g.a g.i g.n) true za0)<|by (rw [hj0];rfl)
/-- What a tree's parts must be, so that the walks can count. -/
def rn (x:TUnit):Prop:=x.head.length≤300∧x.words.length≤300∧x.label.length≤2 ^ 39∧(∀ w,w∈x.head→w.text.length≤2 ^ 39)∧∀ w,w∈x.words→w.text.length≤2 ^ 39
def mf (u:TUnit):Prop:=nU u≤2 ^ 19∧∀ x,x∈bx u→rn x
theorem Gv (u:TUnit) (h:mf u):kP 228 [eU u, .func (.func 348) [] []] (.bool (vf lG u)):=
  Kq 348 lG u
    (fun x hx=>by
      obtain ⟨a,b,c,d,e⟩:=h.2 x hx
      have h1:=bK x
      have h2:=dH hx
      have h3:=h.1
      grind [RV])
    (by have h1:=bK u;have h3:=h.1;omega)
    (fun x hx=>by
      have h1:=bK x
      have h2:=dH hx
      have h3:=h.1
      omega)
theorem xY (u:TUnit) (h:mf u):kP 300 [eU u] (.bool (km u)):=by
  have h1:=h.1
  have e1:=Gv u h
  have e2:=Gu u (by omega)
  have e3:=Dt u (by omega)
  have e4:=Vf u (by omega)
  have hd:=Dr u
  have rr0 b' (h:(km u)=b':=by (simp only [km,aS,ax,bS, *];done)):=h;exact bB Tryz.func300<|Kp 2 e1<|Kb 0 (vf lG u) (fun a=>Kt 0 a<|Mp e2<|Mt a<|Ku 0 a<|Kn 0 (aB 8<|Int.ofNat<|m0 u) (fun a=>Kt 0 (bT a)<|Mp e3<|Mt (bT a)<|Ku 0 (bT a)<|Kn 0 (aB 1024<|Int.ofNat<|nU u) (fun a=>Kt 0 (bT a)<|Mp e4<|MV (bT a)<|Kf 0<|ce<|rr0<|PE u) fun a=>Mh (bN a)<|My (bN a)<|Ky 0<|rr0 false) fun a=>Mh (bN a)<|Mh (bN a)<|My (bN a)<|Ky 2<|rr0 false) fun a=>Mh a<|Mh a<|My a<|Ky 4<|rr0 false
theorem rJ (l:List PWord) (hl:l.length<2 ^ 30):kP 183 [.ls (l.map aQ)] (.ls (l.map aQ)):=by
  cases l with
  | nil=>exact aO.ls0 (QF.less Le.nils) (QE.lessB (u:= .ls []) (by kernel_rfl))
  | cons w r=>grind [QG]
noncomputable abbrev vB:AObj:= .row 8 false 0 [.agg [iV 0,iV 0,iV 0,iV 0, .str [], .nils, .nils, .nils]]
theorem GE : ∀ (u:TUnit),nU u≤2 ^ 20→(∀ x,x∈bx u→x.head.length<2 ^ 30∧x.words.length<2 ^ 30)→kP 87 [eU u] (eU u):=by
  refine TUnit.ind fun u ih hn ht=>?_
  have hkl:=bK u
  have c1:=rJ u.head (ht u (cV u)).1
  have c2:=rJ u.words (ht u (cV u)).2
  have ihk : ∀ k,k∈u.kids→kP 87 [eU k] (eU k):=fun k hk=>ih k hk (bH (pA (gw hk)) hn) (fun x hx=>ht x (bh hk hx))
  have rr0 b' (h:(u.kids.map aV)=b':=by first | rfl | (rw [← hj0];rfl) | (rw [← hj0.2.2.1,dB])):=h;let q1:=List.map aQ u.words;let q2:=List.map aQ u.head;exact bB Tryz.func87<|Kp 3 c1<|Kp 1 c2<|Kl 7 16 (ln aV u.kids)<|Mg 0<|jG Nat Nat (List TUnit) aV u.kids [1,2,3,15,16,17] (fun a _=>([aR 0 0 0 0,aR 1 0 0 0,aa,aX<|u.kids.map aV,nV u.kids.length,nV a],[aZ 8 false 0 [ak [iV u.act,iV u.item,iV u.n,iV u.kind,aj u.label,aX<|u.head.map aQ,aX<|u.words.map aQ,aX<|u.kids.map aV]],aZ 8 false 0 [ak [iV 0,iV 0,iV 0,iV 0,aj [],aa,aa,aa]]])) (fun a _ b c d=>([aR 0 0 0 0,aR 1 0 0 0,aH 2 b 0 c none,aX<|u.kids.map aV,nV u.kids.length,nV a],[aZ 8 false 0 [ak [iV u.act,iV u.item,iV u.n,iV u.kind,aj u.label,aX<|u.head.map aQ,aX<|u.words.map aQ,aX<|u.kids.map aV]],aZ 8 false 0 [ak [iV 0,iV 0,iV 0,iV 0,aj [],aa,aa,aa]],aZ 8 true b<|d.map aV])) (fun a=>a=u.kids) (fun a _ b c=>b=c.length∧(0:Nat)<c.length∧c++a=u.kids∧c.length+a.length=u.kids.length) (by rfl) (fun _ _ _ _ _ a hj0=>Kh 0 a<|Kl 0 27 bA<|Kf 3 (aN (lc<|lc<|lc<|lc<|lc<|lc<|lc<|.cons (b9<|rr0 []) .nil)<|by kernel_rfl:Le _ (AV.agg [iV u.act,iV u.item,iV u.n,iV u.kind,AV.str u.label,AV.ls q2,AV.ls q1,AV.ls []]))) (fun a _ _ b c d _ e f g _ i _=>have i:=(i).trans<|congrArg some<|aA c;have hj0:=cW (J:=fun a _=>a=u.kids) (a:=()) f b;Kt 0 g<|Mx i<|Kp 4 (ihk c gR)<|K1 1 (.obj 3<|aZ 8 true 0<|List.map aV [c]) (congrArg (aZ 8 true 0)<|SC (f:=aV) (g:=Go.Ev.eU) (ws:=[c]) aA)<|Kl 1 26 (dj a)<|K1 0 (.ren [0,1,3,2] [3] [1,2,3,15,16,17]) (tS 8 true 0<|aW gO [c])<|M1 (.frz 3 [1,2,3,15,16,17]) (kx (tR 8 true 0 3<|aW gO [c]) rt rt ti)<|Mf<|e 0 1 [c]<|by (refine ⟨rfl,by simp,?_,?_⟩ <;> (rw [← hj0]) <;> (first | rfl | grind))) (fun _ _ a b c _ _ _ d hj0=>let e:=List.map aV c;Kh 0 d<|Mg 0<|M2 (.fsl 2 [1,2] 27 e) (cp rt rt ti) (cp (aU a) (tA aV c b (oA:(c).length=b))<|aW gO c)<|Ml 27 (fx e false<|aW gO c)<|Kf 3 (aN (lc<|lc<|lc<|lc<|lc<|lc<|lc<|.cons (b9<|rr0 e) .nil)<|by kernel_rfl:Le _ (AV.agg [iV u.act,iV u.item,iV u.n,iV u.kind,AV.str u.label,AV.ls q2,AV.ls q1,AV.ls e]))) fun a _ b c d _ e f g _ i j l _ n _=>have n:=(n).trans<|congrArg some<|aA f;have hj0:=cW (J:=fun a b=>b.2.1=b.2.2.length∧(0:Nat)<b.2.2.length∧b.2.2++a=u.kids∧b.2.2.length+a.length=u.kids.length) (a:=(b,c,d)) j e;Kt 0 l<|Mx n<|Kp 4 (ihk f gR)<|K1 0 .app (cp (aU b) (sA:c=(d.map aV).length) (by (refine ao (m:=2 ^ 21) ?_ ?_ ?_ <;> omega):small (c+1) 120=true))<|M1 (.obj 2<|aZ 8 true (b+1)<|(d++ [f]).map aV) (congrArg (aZ 8 true<|b+1)<|xh (f:=aV) (g:=Go.Ev.eU) (l:=d) (ws:=[f]) aA)<|Kl 1 26 (dj a)<|K1 0 (.frz 3 [1,2,3,15,16,17]) (kx (tR 8 true (b+1) 3<|aW gO<|d++ [f]) rt rt ti)<|Mf<|i (b+1) (c+1) (d++ [f])<|by (refine ⟨by simp_all,by simp,?_,?_⟩ <;> first | (rw [← hj0.2.2.1];simp;done) | grind)
theorem Vs (p:PId) (u:TUnit) (h:By (cJ p u) true) (hn:nU u≤2 ^ 20) (ht : ∀ x,x∈bx u→x.head.length<2 ^ 30∧x.words.length<2 ^ 30):kP 48 [eU u,aJ p] (.tuple [eU (ej p u), .bool true]):=by
  have hw:=Eh p u h hn
  have hlen:=lP (p:=p) u
  have hpos:0<(aD p u).length:=pG.2 (kR h)
  have hm:ej p u∈bx u:=JJ u _ (QW h)
  have hf:ej p u=gD (aD p u) ((aD p u).length - 1):=by unfold ej;simp_all
  have hc:=GE (ej p u) (bH (dH hm) hn) (fun x hx=>ht x (by
    grind [g0]))
  rw [hf] at hc ⊢
  have hz:=Qw hpos
  exact bB Tryz.func48<|Kp 5 hw<|Kl 2 11 (ln aV<|aD p u)<|Kh 0 hz<|Kl 2 16 (ln aV<|aD p u)<|Kl 0 17 (EY (aD p u).length)<|Mx ((aT aV (oA:(aD p u).length - 1<(aD p u).length)).trans<|congrArg some<|aA _)<|Kp 0 hc<|Kf 1<|bg<|ca [ak [iV (gD (aD p u)<|(aD p u).length - 1).act,iV (gD (aD p u)<|(aD p u).length - 1).item,iV (gD (aD p u)<|(aD p u).length - 1).n,iV (gD (aD p u)<|(aD p u).length - 1).kind,aj (gD (aD p u)<|(aD p u).length - 1).label,aX<|List.map aQ (gD (aD p u)<|(aD p u).length - 1).head,aX<|List.map aQ (gD (aD p u)<|(aD p u).length - 1).words,aX<|List.map aV (gD (aD p u)<|(aD p u).length - 1).kids],eH true]
theorem Vu (p:PId) (u:TUnit) (h:By (cJ p u) false) (hn:nU u≤2 ^ 20):kP 48 [eU u,aJ p] (.tuple [eU ba, .bool false]):=by
  have hw:=JW p u h hn
  exact bB Tryz.func48<|Kp 5 hw<|Kf 7 (cD<|.cons (aN (lc<|lc<|lc<|lc<|lc<|.cons bA<|.cons bA<|.cons bA .nil)<|by kernel_rfl)<|lc .nil:Le _ (ca [ak [iV 0,iV 0,iV 0,iV 0,aj [],aa,aa,aa],eH false]))
theorem QX (p:PId) (u:TUnit) (hn:nU u≤2 ^ 20) (ht : ∀ x,x∈bx u→x.head.length<2 ^ 30∧x.words.length<2 ^ 30):kP 48 [eU u,aJ p] (.tuple [eU (ej p u), .bool (cJ p u)]):=by
  cases h:cJ p u with
  | true=>grind [Vs]
  | false=>
    have:=Vu p u h hn
    rwa [show ba=ej p u by unfold ej;simp_all] at this
theorem YD (l:List PWord) (g:Nat) (q:PWord→Bool) (hp : ∀ k,k∈l→kP g [aQ k] (.bool (q k))) (hl:l.length<2 ^ 40):kP 350 [.ls (l.map aQ), .func (.func g) [] []] (iV (dm q l 0)):=by
  have rr0 b' (h:(dm q l 0)=b':=by first | exact mX zd0 hr0 hj0 ‹_› | exact hj0):=h;exact bB Tryz.func350<|Kl 2 7 (ln aQ l)<|Mg 0<|rf aQ l [0,1,7,8] (fun a _=>([aX<|l.map aQ,bU (bY g) [] [],nV l.length,nV a],[])) (fun a=>dm q l (0:Nat)=dm q a (l.length - a.length)) sA (fun _ _ zd0 _ hr0 a hj0=>Kh 0 a<|Kf 0<|li<|rr0 (-1)) fun a _ zd0 _ b c d hr0 e _ f hj0=>Kt 0 e<|Kx 4 f<|Kp 0 (hp b<|by exact ar zd0 hr0)<|Mb (q b) (fun _=>Kf 1<|li<|rr0<|Int.ofNat a) fun _=>Kl 0 18 (dj a)<|Kf 0<|d<|by exact kQ zd0 hr0 hj0 (by omega)
theorem Yi (l:List PWord) (g:Nat) (q:PWord→Bool) (hp : ∀ k,k∈l→kP g [aQ k] (.bool (q k))) (hl:l.length<2 ^ 40):kP 303 [.ls (l.map aQ), .func (.func g) [] []] (.bool (l.any q)):=by
  have h:=YD l g q hp hl
  have rr0 b' (h:(l.any q)=b':=by (rw [lJ];simp only [aS,ax,bS,rg])):=h;exact bB Tryz.func303<|Kp 2 h<|Kf 1<|ce<|rr0<|ax<|aB (dm q l 0) 0
theorem BR (w:PWord):kP 302 [aQ w] (.bool (oP w)):=by
  exact bB Tryz.func302<|Kv 4 (DK ((Tryz.prog).underlying 62) w.act w.item w.at_ 0 0 0<|ay [aZ 4 false 0 [ak [aj w.text,iV w.act,iV w.item,iV w.at_]]])<|Kf 0<|bg<|eH<|ax<|ab w.act 0 && (ab w.item 0 && ab w.at_ 0)
theorem Q3 (u:TUnit) (h1:u.head.length<2 ^ 40) (h2:u.words.length<2 ^ 40):kP 301 [eU u] (.bool (Cp u)):=by
  have c1:=Yi u.head 302 oP (fun k _=>BR k) h1
  have c2:=Yi u.words 302 oP (fun k _=>BR k) h2
  have rr0 b' (h:(Cp u)=b':=by (simp only [Cp,fT,bb,ae,bL,aS,ax,bS, *];first | done | rfl)):=h;exact bB Tryz.func301<|Kv 5 (lU ((Tryz.prog).underlying 27) u.act u.item u.n 0 0 0<|ay [aZ 8 false 0 [ak [iV u.act,iV u.item,iV u.n,iV u.kind,aj u.label,aX<|u.head.map aQ,aX<|u.words.map aQ,aX<|u.kids.map aV]]])<|Kb 0 (ab u.act 0 && (ab u.item 0 && ab u.n 0)) (fun a=>Kt 0 a<|Kt 0 a<|Kt 0 a<|Mp c1<|Mt a<|Ku 0 a<|Kn 0 (u.head.any oP) (fun a=>Kt 0 (bT a)<|Kt 0 (bT a)<|Kt 0 (bT a)<|Mp c2<|Mt (bT a)<|Ku 0 (bT a)<|Kf 0<|ce<|rr0<|ax<|u.words.any oP) fun a=>Mh (bN a)<|Mh (bN a)<|Mh (bN a)<|Mh (bN a)<|My (bN a)<|Ky 0<|rr0 false) fun a=>Mh a<|Mh a<|Mh a<|Mh a<|My a<|Ky 2<|rr0 false
theorem WZ (u:TUnit) (h:mf u):kP 244 [eU u] (.bool (G2 u)):=by
  have e1:=xY u h
  have e2:=Kq 301 Cp u (fun x hx=>by
      obtain ⟨a,b,_⟩:=h.2 x hx
      grind [Q3]) (by have h1:=bK u;have h3:=h.1;omega) (fun x hx=>by
      have h1:=bK x
      have h2:=dH hx
      have h3:=h.1
      omega)
  have rr0 b' (h:(G2 u)=b':=by (simp only [G2,aS,ax,bS, *];first | done | rfl)):=h;exact bB Tryz.func244<|Kp 2 e1<|Kb 0 (km u) (fun c=>Kt 0 c<|Mp e2<|MV c<|Kf 0<|ce<|rr0<|vf Cp u) fun c=>Mh c<|My c<|Ky 0<|rr0 false
theorem Ln (p:PId) (u:TUnit) (hh:cJ p u=false) (hn:nU u≤2 ^ 20):kP 148 [eU u,aJ p] (.tuple [aJ bL,iV (-1), .bool false]):=by
  have hw:=JW p u hh hn
  exact bB Tryz.func148<|Kp 6 hw<|Kf 8<|bg<|ca [ak [iV 0,iV 0,iV 0],iV (-1),eH false]
theorem Lm (p:PId) (u:TUnit) (hh:cJ p u=true) (hl:aB (Int.ofNat (aD p u).length) 2=true) (hn:nU u≤2 ^ 20):kP 148 [eU u,aJ p] (.tuple [aJ bL,iV (-1), .bool false]):=by
  have hw:=Eh p u hh hn
  exact bB Tryz.func148<|Kp 6 hw<|Kl 2 14 (ln aV<|aD p u)<|Kt 0 hl<|Kf 3<|bg<|ca [ak [iV 0,iV 0,iV 0],iV (-1),eH false]
theorem Om (p:PId) (u:TUnit) (h:jx p u=false) (hn:nU u≤2 ^ 20):kP 148 [eU u,aJ p] (.tuple [aJ bL,iV (-1), .bool false]):=by
  grind [Ln, Lm, jx]
theorem Oi (p:PId) (u:TUnit) (h:jx p u=true) (hn:nU u≤2 ^ 20):kP 148 [eU u,aJ p] (.tuple [aJ (sV p u),iV (qV p u), .bool true]):=by
  have hl:aB (Int.ofNat (aD p u).length) 2=false:=by grind [jx]
  have hl2:2≤(aD p u).length:=by have:=aL hl;grind
  have hh:cJ p u=true:=by
    cases e:cJ p u with
    | true=>rfl
    | false=>grind [PH]
  have hw:=Eh p u hh hn
  have hlen:=lP (p:=p) u
  have hm:Hb p u∈bx u:=JJ u _ (gH (by omega))
  have hkn : ∀ k,k∈(Hb p u).kids→nU k≤2 ^ 20:=fun k hk=>bH (dH (g0 hm (J4 hk))) hn
  have hkl:(Hb p u).kids.length<2 ^ 40:=by have:=bK (Hb p u);have:=dH hm;omega
  have hi:=YU (Hb p u).kids 242 p (cJ p) (fun k hk=>by
    grind [cJ, Lo, Lp]) hkl
  rw [HI h,HL h]
  generalize hG:Hb p u=y at *
  have hG2:gD (aD p u) ((aD p u).length - 2)=y:=hG
  have rr0 b' (h:((ae y).a)=b':=by (rw [hG2];rfl)):=h;have rr1 b' (h:((ae y).i)=b':=by (rw [hG2];rfl)):=h;have rr2 b' (h:((ae y).n)=b':=by (rw [hG2];rfl)):=h;exact bB Tryz.func148<|Kp 6 hw<|Kl 2 14 (ln aV<|aD p u)<|Kh 0 hl<|Kl 2 19 (ln aV<|aD p u)<|Kl 0 20 (b6 (x:=Int.ofNat (aD p u).length - (2:Int)) (n:=(aD p u).length - 2) eO)<|Mx ((aT aV (oA:(aD p u).length - 2<(aD p u).length)).trans<|congrArg some<|aA _)<|Mg 5<|M0 (.ren [2,3,0,1] [] [4,8,24,25])<|M1 (.frz 2 [4,8,24,25]) (cp rt rt ti)<|Mp (aO.onArgs (.cons (b9 (by (rw [hG2];done):(y.kids.map aV)=(List.map aV (gD (aD p u) ((aD p u).length - 2)).kids)))<|lc .nil) hi:kP 241 [aX (List.map aV (gD (aD p u) ((aD p u).length - 2)).kids),bU (bY 242) [] [AV.pptr [ak [iV p.a,iV p.i,iV p.n]] 0 0]] _)<|Kf 6 (cD<|.cons (aN (.cons (li<|rr0 (gD (aD p u)<|(aD p u).length - 2).act)<|.cons (li<|rr1 (gD (aD p u)<|(aD p u).length - 2).item)<|.cons (li<|rr2 (gD (aD p u)<|(aD p u).length - 2).n) .nil)<|by kernel_rfl)<|lc<|lc .nil:Le _ (ca [ak [iV (gD (aD p u) ((aD p u).length - 2)).act,iV (gD (aD p u) ((aD p u).length - 2)).item,iV (gD (aD p u) ((aD p u).length - 2)).n],iV (dm (cJ p) y.kids 0),eH true]))
theorem Ol (p:PId) (u:TUnit) (hn:nU u≤2 ^ 20):kP 148 [eU u,aJ p] (.tuple [aJ (sV p u),iV (qV p u), .bool (jx p u)]):=by
  grind [jx, Oi, UT, Oo, Om]
theorem Xr (p:PId) (u:TUnit) (h:cJ p u=false) (hn:nU u≤2 ^ 20):kP 226 [eU u,aJ p] (.ls ((pn p u).map aJ)):=by
  have hw:=JW p u h hn
  have e:pn p u = []:=by unfold pn;rw [zd h];rfl
  rw [e]
  let q:= [aZ 8 false 0 [ak [iV u.act,iV u.item,iV u.n,iV u.kind,aj u.label,aX (u.head.map aQ),aX (u.words.map aQ),aX (u.kids.map aV)]],aZ 3 false 0 [ak [iV p.a,iV p.i,iV p.n]]];let q1:= [aa,aa,iV (IntKind.i64.wrap (0 - 2))];exact bB Tryz.func226<|Kp 5 hw<|Mg 4<|XD [5,6,7] (q1,q) True 0 ti fun _ _=>Kf 4 bA
theorem Xp (p:PId) (u:TUnit) (h:cJ p u=true) (hn:nU u≤2 ^ 20):kP 226 [eU u,aJ p] (.ls ((pn p u).map aJ)):=by
  have hw:=Eh p u h hn
  have hlen:=lP (p:=p) u
  have hpos:0<(aD p u).length:=pG.2 (kR h)
  have hac:=Cs p u
  have rr0 b' (h:((pn p u).map aJ)=b':=by first | rfl | (rw [RW hx0 ‹_›];rfl) | (rw [RJ hx0.2.1 oA ‹_›])):=h;exact bB Tryz.func226<|Kp 5 hw<|Kl 0 6 (fx ((aD p u).map aV) false<|aW gO<|aD p u)<|Kl 1 12 (ln aV<|aD p u)<|Kl 0 13 (Le.wr (x:=Int.ofNat (aD p u).length - 2) eO)<|K1 0 (.frz 0 [5,6,7]) ti<|Rv Int Nat Nat (List PId) (Int.ofNat (aD p u).length - 2) [5,6,7] (fun a=>([aa,aX<|(aD p u).map aV,iV a],[])) (fun a b c d=>([aH 0 b 0 c none,aX<|(aD p u).map aV,iV a],[aZ 3 true b<|d.map aJ])) (fun a=>a=Int.ofNat (aD p u).length - (2:Int)) (fun a _ b c=>b=c.length∧c=oU p u (a+(1:Int)).toNat∧((-1):Int)≤a∧a+(2:Int)≤↑(aD p u).length∧c.length≤(aD p u).length) (fun a=>(a+1).toNat) (fun a _ _ _=>(a+1).toNat) (by rfl) (fun a hx0 _ b=>have hx0:=hx0;Kd 1 a 0 (fun _ _=>Kl 2 20 (Ag (x:=a) oA)<|Mx ((aT aV (gR:a.toNat<(aD p u).length)).trans<|congrArg some<|aA _)<|Kl 6 17 (Le.wr (x:=a - 1) eO)<|Kf 0<|b (a - 1) 0 1 [PId.mk (gD (aD p u) a.toNat).act (gD (aD p u) a.toNat).item (gD (aD p u) a.toNat).n] (by exact ⟨rfl,NQ hx0 (by omega),by omega,by grind,by grind⟩) oA) fun _ _=>Kf 1 (Le.lsn<|rr0 []:Le _ (aa))) fun a b c d hx0 _ e=>have hx0:=hx0;Kd 1 a 0 (fun _ _=>Kl 2 20 (Ag (x:=a) oA)<|Mx ((aT aV (oA:a.toNat<(aD p u).length)).trans<|congrArg some<|aA _)<|K1 2 .app (cp (aU b) (sA:c=(d.map aJ).length) (by (refine ao (m:=2 ^ 21) ?_ ?_ ?_ <;> omega):small (c+1) 24=true))<|M1 (.obj 0<|aZ 3 true (b+1)<|(d++ [PId.mk (gD (aD p u) a.toNat).act (gD (aD p u) a.toNat).item (gD (aD p u) a.toNat).n]).map aJ) (congrArg (aZ 3 true<|b+1)<|cC (f:=aJ) (l:=d) (ws:=[PId.mk (gD (aD p u) a.toNat).act (gD (aD p u) a.toNat).item (gD (aD p u) a.toNat).n]))<|Kl 2 17 (Le.wr (x:=a - 1) eO)<|Kf 0<|e (a - 1) (b+1) (c+1) (d++ [PId.mk (gD (aD p u) a.toNat).act (gD (aD p u) a.toNat).item (gD (aD p u) a.toNat).n]) (by exact ⟨by simp_all,G8 hx0.2.1 hx0.2.2.2.1 (by omega),by omega,by omega,by (have z:=G8 hx0.2.1 hx0.2.2.2.1 (by omega);grind)⟩) oA) fun _ _=>Mg 1<|M2 (.fsl 0 [] 4<|d.map aJ) ti (cp (aU b) (tA aJ d c (oA:(d).length=c))<|aW zL d)<|Ml 4 (fx (d.map aJ) false<|aW zL d)<|Mf<|b9<|rr0<|d.map aJ
theorem G7 (p:PId) (u:TUnit) (hn:nU u≤2 ^ 20):kP 226 [eU u,aJ p] (.ls ((pn p u).map aJ)):=by
  grind [Xp, Xr]
end Go.Proofs.YtidehekfpcgelaaGreatDoor
