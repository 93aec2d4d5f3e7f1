/- Functions walked: what each of them answers, for the law of order: part 1. Conditions: those that each theorem names. -/
import Derived.Test.YtempcdhknnjebaaGreatDoorCmb
import Derived.Test.YtempcdhknnjebaaGreatDoorLay
import Derived.Test.YtempcdhknnjebaaGreatDoorLay2
namespace Go.Proofs.YtempcdhknnjebaaGreatDoor
open Go Go.Ev
noncomputable abbrev ca:=@Le.bool
noncomputable abbrev aW:=@AV.ls
noncomputable abbrev ay:=@AV.agg
noncomputable abbrev aw:=@AV.str
noncomputable abbrev bJ:=@AV.func
noncomputable abbrev bW:=@Fn.func
noncomputable abbrev fK:=@Le.ps
noncomputable abbrev iK:=@AV.ps
noncomputable abbrev bq:=@Le.refl
noncomputable abbrev dB:=@AV.bool
noncomputable abbrev cp:=@Le.tuple
noncomputable abbrev cj:=@AV.tuple
noncomputable abbrev af:=@AV.nils
noncomputable abbrev aZ:=@AObj.row
noncomputable abbrev eb:=@Rl
noncomputable abbrev bK:=@AV.ptr
noncomputable abbrev aD:=@AV.slice
noncomputable abbrev bA:=@Le.nils
noncomputable abbrev Yp:=@ARes.val
noncomputable def pF (x:PWord):Bool:=ak (ar 100 (.ofNat x.text.length))
noncomputable def mz (ws:List PWord):Bool:=ws.all pF && ak (ar 300 (.ofNat ws.length))
theorem Fi (x:Int):kP 213 [iV x] (.bool false):=by
  have rr0 b' (h:(false)=b':=by simp [aT]):=h;exact wk Tryz.func213 (.go 4 .fin)<|ca<|rr0<|ak<|ae x x
theorem o6 (x y:Int):kP 114 [iV x,iV y] (iV (jB x y)):=by
  have rr0 b' (h:(jB x y)=b':=by simp [jB, *]):=h;exact bo Tryz.func114<|Kp 1 (Fi x)<|Kp 1 (Fi y)<|Kb 7 (ar x y) (fun _=>Kf 0<|li<|rr0 (-1)) fun _=>Kb 2 (ar y x) (fun _=>Kf 0<|li<|rr0 1) fun _=>Kf 0<|li<|rr0 0
theorem Eu (ws:List PWord) (hl:ws.length<2 ^ 60):kP 261 [.ls (ws.map aQ)] (.bool (mz ws)):=by
  have rr0 b' (h:(mz ws)=b':=by simp only [mz,pF,aS,ak,bS, *]):=h;exact bo Tryz.func261<|Mg 1<|sl aQ ws [0,3] (fun a _=>([aW<|ws.map aQ,nV a],[])) (fun a=>ws.all pF=a.all pF) (by rfl) (fun _ _ _ _ _ a _=>Kl 2 6 (ln aQ ws)<|Kh 0 a<|Kl 1 18 (ln aQ ws)<|Kf 1<|ca<|rr0<|ak<|ar 300<|Int.ofNat ws.length) fun a _ _ _ b c d _ e _ f _=>Kl 2 6 (ln aQ ws)<|Kt 0 e<|Kx 1 f<|Ka 3 100 (Int.ofNat<|List.length b.text) (fun _ _=>Ky 0<|rr0 false) fun _ _=>Kl 1 9 (dg a)<|Kf 0<|d<|by simp_all [pF]
mutual
noncomputable def kz:TUnit→Bool
  | ⟨_,_,_,_,label,h,w,kids⟩=>ak (ar 30 (.ofNat label.length)) && mz h && mz w && xM kids
noncomputable def xM:List TUnit→Bool
  | []=>true
  | u::r=>kz u && xM r
end
theorem BX : ∀ (l:List TUnit),xM l=l.all kz
  | []=>by rw [xM];rfl
  | u::r=>by rw [xM,BX r];rfl
theorem BW (u:TUnit):kz u=(ak (ar 30 (.ofNat u.label.length)) && mz u.head && mz u.words && u.kids.all kz):=by
  obtain ⟨a,b,c,d,e,f,g,h⟩:=u
  rw [kz,BX];rfl
theorem Ns : ∀ (u:TUnit),oO u→kP 185 [eU u] (.bool (kz u)):=by
  refine TUnit.ind fun u ih hf=>?_
  obtain ⟨f1,f2,f3,f4⟩:=kR.1 hf
  have rr0 b' (h:(kz u)=b':=by rw [BW];simp only [aS,ak,bS, *]):=h;exact bo Tryz.func185<|Ka 6 30 (Int.ofNat<|List.length u.label) (fun a _=>Mt a<|Mt a<|Mt a<|MV a<|Ky 3<|rr0 false) fun a _=>Kh 0 a<|Kh 0 a<|Mp (Eu u.head f1)<|Mh a<|Kw 0 a<|Kn 0 (mz u.head) (fun a=>Mt (cQ a)<|Mt (cQ a)<|Mt (cQ a)<|MV (cQ a)<|Ky 1<|rr0 false) fun a=>Kh 0 (bO a)<|Kh 0 (bO a)<|Mp (Eu u.words f2)<|Mh (bO a)<|Kw 0 (bO a)<|Mn (mz u.words) (fun _=>Ky 0<|rr0 false) fun _=>K1 0 (.frz 0 [1,3]) ti<|sl aK u.kids [1,3] (fun a _=>([AV.pptr [ay [iV u.act,iV u.item,iV u.n,iV u.kind,aw u.label,aW<|u.head.map aQ,aW<|u.words.map aQ,aW<|u.kids.map aK]] 0 0,nV a],[])) (fun a=>u.kids.all kz=a.all kz) (by rfl) (fun _ _ _ _ _ a _=>Kl 3 23 (ln aK u.kids)<|Kh 0 a<|Ky 0<|rr0 true) fun a _ b _ c d e f g _ i _=>have i:=i.trans<|congrArg some<|aI c;Kl 3 23 (ln aK u.kids)<|Kt 0 g<|Kx 2 i<|Kp 0 (ih c (by exact aR b f)<|by exact f4 _ (aR b f))<|Kn 0 (kz c) (fun _=>Kf 0<|ca<|rr0 false) fun _=>Kl 1 26 (dg a)<|Kf 0<|e sA
mutual
noncomputable def mU:TUnit→Int→Int→Int
  | ⟨_,_,_,_,_,_,_,kids⟩,deep,most=>match ar 20 deep with | true=>most+1 | false=>mq kids deep most 1
noncomputable def mq:List TUnit→Int→Int→Int→Int
  | [],_,_,n=>n
  | k::r,deep,most,n=>match ar most n with | true=>n | false=>mq r deep most (n+mU k (deep+1) (most - n))
end
theorem Oz (u:TUnit) (deep most:Int):mU u deep most=match ar 20 deep with | true=>most+1 | false=>mq u.kids deep most 1:=by
  obtain ⟨a,b,c,d,e,f,g,h⟩:=u;rw [mU];rfl
mutual
theorem Es : ∀ (u:TUnit) (deep most:Int),0≤most→1≤mU u deep most∧mU u deep most≤most+1
  | ⟨_,_,_,_,_,_,_,kids⟩,deep,most,h=>by
    rw [mU]
    split
    · omega
    · exact Et kids deep most 1 (by omega) (by omega)
theorem Et : ∀ (l:List TUnit) (deep most n:Int),1≤n→n≤most+1→1≤mq l deep most n∧mq l deep most n≤most+1
  | [],_,_,n,h1,h2=>by grind [mq]
  | k::r,deep,most,n,h1,h2=>by
    rw [mq]
    split
    · omega
    · rename_i h
      have:=aB h
      have:=Es k (deep+1) (most - n) (by omega)
      exact Et r deep most _ (by omega) (by omega)
end
theorem R5 : ∀ (u:TUnit),oO u→∀ (deep most:Int),0≤deep→deep≤21→0≤most→most≤2 ^ 20→kP 184 [eU u,iV deep,iV most] (iV (mU u deep most)):=by
  refine TUnit.ind fun u ih hf deep most d1 d2 m1 m2=>?_
  obtain ⟨f1,f2,f3,f4⟩:=kR.1 hf
  have rr0 b' (h:(mU u deep most)=b':=by rw [Oz];simp only [mq,aS,ak,bS, *]):=h;exact bo Tryz.func184<|Ka 3 20 deep (fun _ _=>Kl 1 12 (Le.wr (x:=most+1) ef)<|Kf 0<|li<|rr0<|most+1) fun _ _=>K1 1 (.frz 0 [1,2,3,7,8]) ti<|Nl aK u.kids (1:Int) [1,2,3,7,8] (fun a _ b=>([iV deep,iV most,AV.pptr [ay [iV u.act,iV u.item,iV u.n,iV u.kind,aw u.label,aW<|u.head.map aQ,aW<|u.words.map aQ,aW<|u.kids.map aK]] 0 0,iV b,nV a],[])) (fun a b=>(1:Int)≤b∧b≤most+(1:Int)∧mq u.kids deep most (1:Int)=mq a deep most b) oA (fun _ _ a _ _ _ b _=>Kl 3 16 (ln aK u.kids)<|Kh 1 b<|Mh b<|Mh b<|My b<|Kf 2<|li<|rr0 a) fun a _ b c _ d e f g i _ j _=>have j:=j.trans<|congrArg some<|aI d;Kl 3 16 (ln aK u.kids)<|Kt 1 i<|Kt 0 i<|Kt 0 i<|Ku 0 i<|Mn (ar most b) (fun i=>have :=aB i;Kx 3 j<|Kl 2 32 (Le.wr (x:=deep+1) ef)<|Kl 2 35 (Le.wr (x:=most - b) ef)<|Mp (ih d (by exact aR c g) (by exact f4 _ (aR c g)) (deep+1) (most - b) oA oA oA oA)<|have :=Es d (deep+1) (most - b) oA;Kl 0 37 (Le.wr (x:=b+mU d (deep+1) (most - b)) ef)<|Kl 2 24 (dg a)<|Kf 0<|f (b+mU d (deep+1) (most - b))<|by (refine ⟨by omega,by omega,?_⟩;first | rfl | grind [mq])) fun a=>have :=au a;Kf 1<|li<|rr0 b
noncomputable def GU (u:TUnit) (most:Int):Bool:=ak (ar most (mU u 0 most)) && kz u
theorem Tl (u:TUnit) (most:Int) (hf:oO u) (m1:0≤most) (m2:most≤2 ^ 20):kP 90 [eU u,iV most] (.bool (GU u most)):=by
  have rr0 b' (h:(GU u most)=b':=by simp only [GU,aS,ak,bS, *]):=h;exact bo Tryz.func90<|Kp 3 (R5 u hf 0 most oA oA m1 m2)<|Kn 2 (ar most<|mU u 0 most) (fun a=>Kt 0 (cQ a)<|Mp (Ns u hf)<|MV (cQ a)<|Kf 0<|ca<|rr0<|kz u) fun a=>Mh (bO a)<|My (bO a)<|Ky 0<|rr0 false
noncomputable def wS (s:aN):Bool:=ak (ar 100 (.ofNat s.length))
noncomputable def wR (s:PStep):Bool:=ak (ar 100 (.ofNat s.label.length))
noncomputable def xt (x:PItem):Bool:=
  ak (ar 12 (.ofNat x.at_.length)) && ak (ar 12 (.ofNat x.to.length)) && ak (ar 300 (.ofNat x.old.length)) && ak (ar 300 (.ofNat x.new.length)) && ak (ar 100 (.ofNat x.label.length)) && ak (ar 100 (.ofNat x.for_.length))
  && ak (ar 100 (.ofNat x.start.event.length)) && ak (ar 100 (.ofNat x.event.length)) && ak (ar 2 (.ofNat x.by_.length)) && GU x.unit 30
noncomputable def Gt (y:PItem):Bool:=ar 0 (.ofNat y.by_.length) && ar 0 (.ofNat (gD y.by_ 0).by_.length)
mutual
noncomputable def mp:PItem→Bool
  | ⟨k,a,t,w,nn,u,o,n,lb,fo,st,ac,it,dy,ev,by_⟩=>xt ⟨k,a,t,w,nn,u,o,n,lb,fo,st,ac,it,dy,ev,by_⟩ && (o.all wS && (n.all wS && (a.all wR && (t.all wR && Gz by_))))
noncomputable def Gz:List PItem→Bool
  | []=>true
  | u::r=>(ak (Gt u) && mp u) && Gz r
end
noncomputable def GP (y:PItem):Bool:=ak (Gt y) && mp y
theorem Gq : ∀ (l:List PItem),Gz l=l.all GP
  | []=>by rw [Gz];rfl
  | u::r=>by rw [Gz,Gq r];rfl
theorem Dy (x:PItem):mp x=(xt x && (x.old.all wS && (x.new.all wS && (x.at_.all wR && (x.to.all wR && x.by_.all GP))))):=by
  obtain ⟨k,a,t,w,nn,u,o,n,lb,fo,st,ac,it,dy,ev,by_⟩:=x
  rw [mp,Gq];rfl
theorem Tn : ∀ (x:PItem),mR x→kP 54 [eI x] (.bool (mp x)):=by
  refine PItem.ind fun x ih hf=>?_
  obtain ⟨f1,f2,f3,f4,f5,f6,f7⟩:=qz.1 hf
  have hu:kP 90 [eU x.unit,iV 30] (.bool (GU x.unit 30)):=Tl x.unit 30 f6 (by omega) (by omega)
  have rr0 b' (h:(mp x)=b':=by rw [Dy,xt];simp only [GP,Gt,wS,wR,aS,ak,bS, *]):=h;exact bo Tryz.func54<|Kl 4 10 (ln ax x.at_)<|Ka 1 12 (Int.ofNat x.at_.length) (fun a _=>Mt a<|Mt a<|Mt a<|MV a<|Ky 17<|rr0 false) fun a _=>Kh 0 a<|Kh 0 a<|Kl 0 15 (ln ax x.to)<|Mh a<|Kw 0 a<|Ka 0 12 (Int.ofNat x.to.length) (fun a _=>Mt a<|Mt a<|Mt a<|MV a<|Ky 15<|rr0 false) fun a _=>Kh 0 a<|Kh 0 a<|Kl 0 21 (ln mD x.old)<|Mh a<|Kw 0 a<|Ka 0 300 (Int.ofNat x.old.length) (fun a _=>Mt a<|Mt a<|Mt a<|MV a<|Ky 13<|rr0 false) fun a _=>Kh 0 a<|Kh 0 a<|Kl 0 27 (ln mD x.new)<|Mh a<|Kw 0 a<|Ka 0 300 (Int.ofNat x.new.length) (fun a _=>Mt a<|Mt a<|Mt a<|MV a<|Ky 11<|rr0 false) fun a _=>Kh 0 a<|Kh 0 a<|Kh 0 a<|Kw 0 a<|Ka 0 100 (Int.ofNat<|List.length x.label) (fun a _=>Mt a<|Mt a<|Mt a<|MV a<|Ky 9<|rr0 false) fun a _=>Kh 0 a<|Kh 0 a<|Kh 0 a<|Kw 0 a<|Ka 0 100 (Int.ofNat<|List.length x.for_) (fun a _=>Mt a<|Mt a<|Mt a<|Mt a<|MV a<|Ky 7<|rr0 false) fun a _=>Kh 0 a<|Kh 0 a<|Kh 0 a<|Kh 0 a<|Kw 0 a<|Ka 0 100 (Int.ofNat<|List.length x.start.event) (fun a _=>Mt a<|Mt a<|Mt a<|MV a<|Ky 5<|rr0 false) fun a _=>Kh 0 a<|Kh 0 a<|Kh 0 a<|Kw 0 a<|Ka 0 100 (Int.ofNat<|List.length x.event) (fun a _=>Mt a<|Mt a<|Mt a<|MV a<|Ky 3<|rr0 false) fun a _=>Kh 0 a<|Kh 0 a<|Kl 0 58 (ln MH x.by_)<|Mh a<|Kw 0 a<|Ka 0 2 (Int.ofNat x.by_.length) (fun a _=>Mt a<|Mt a<|Mt a<|MV a<|Ky 1<|rr0 false) fun a _=>Kh 0 a<|Kh 0 a<|Mp hu<|Mh a<|Kw 0 a<|Mn (GU x.unit 30) (fun _=>Ky 0<|rr0 false) fun _=>K1 0 (.frz 0 [1,3]) ti<|sl mD x.old [1,3] (fun a _=>([AV.pptr [ay [iV x.kind,aW<|x.at_.map ax,aW<|x.to.map ax,iV x.where_,iV x.nth_,iV x.unit.act,iV x.unit.item,iV x.unit.n,iV x.unit.kind,aw x.unit.label,aW<|x.unit.head.map aQ,aW<|x.unit.words.map aQ,aW<|x.unit.kids.map aK,aW<|x.old.map mD,aW<|x.new.map mD,aw x.label,aw x.for_,iV x.start.kind,iV x.start.day,aw x.start.event,iV x.act,iV x.item,iV x.day,aw x.event,aW<|x.by_.map MH]] 0 0,nV a],[])) (fun a=>x.old.all wS=a.all wS) (by rfl) (fun _ _ _ _ _ a _=>Kl 3 70 (ln mD x.old)<|Kh 0 a<|Mg 0<|sl mD x.new [1,4] (fun a _=>([AV.pptr [ay [iV x.kind,aW<|x.at_.map ax,aW<|x.to.map ax,iV x.where_,iV x.nth_,iV x.unit.act,iV x.unit.item,iV x.unit.n,iV x.unit.kind,aw x.unit.label,aW<|x.unit.head.map aQ,aW<|x.unit.words.map aQ,aW<|x.unit.kids.map aK,aW<|x.old.map mD,aW<|x.new.map mD,aw x.label,aw x.for_,iV x.start.kind,iV x.start.day,aw x.start.event,iV x.act,iV x.item,iV x.day,aw x.event,aW<|x.by_.map MH]] 0 0,nV a],[])) (fun a=>x.new.all wS=a.all wS) (by rfl) (fun _ _ _ _ _ a _=>Kl 3 84 (ln mD x.new)<|Kh 0 a<|Mg 0<|sl ax x.at_ [1,5] (fun a _=>([AV.pptr [ay [iV x.kind,aW<|x.at_.map ax,aW<|x.to.map ax,iV x.where_,iV x.nth_,iV x.unit.act,iV x.unit.item,iV x.unit.n,iV x.unit.kind,aw x.unit.label,aW<|x.unit.head.map aQ,aW<|x.unit.words.map aQ,aW<|x.unit.kids.map aK,aW<|x.old.map mD,aW<|x.new.map mD,aw x.label,aw x.for_,iV x.start.kind,iV x.start.day,aw x.start.event,iV x.act,iV x.item,iV x.day,aw x.event,aW<|x.by_.map MH]] 0 0,nV a],[])) (fun a=>x.at_.all wR=a.all wR) (by rfl) (fun _ _ _ _ _ a _=>Kl 3 98 (ln ax x.at_)<|Kh 0 a<|Mg 0<|sl ax x.to [1,6] (fun a _=>([AV.pptr [ay [iV x.kind,aW<|x.at_.map ax,aW<|x.to.map ax,iV x.where_,iV x.nth_,iV x.unit.act,iV x.unit.item,iV x.unit.n,iV x.unit.kind,aw x.unit.label,aW<|x.unit.head.map aQ,aW<|x.unit.words.map aQ,aW<|x.unit.kids.map aK,aW<|x.old.map mD,aW<|x.new.map mD,aw x.label,aw x.for_,iV x.start.kind,iV x.start.day,aw x.start.event,iV x.act,iV x.item,iV x.day,aw x.event,aW<|x.by_.map MH]] 0 0,nV a],[])) (fun a=>x.to.all wR=a.all wR) (by rfl) (fun _ _ _ _ _ a _=>Kl 3 113 (ln ax x.to)<|Kh 0 a<|Mg 0<|sl MH x.by_ [1,7] (fun a _=>([AV.pptr [ay [iV x.kind,aW<|x.at_.map ax,aW<|x.to.map ax,iV x.where_,iV x.nth_,iV x.unit.act,iV x.unit.item,iV x.unit.n,iV x.unit.kind,aw x.unit.label,aW<|x.unit.head.map aQ,aW<|x.unit.words.map aQ,aW<|x.unit.kids.map aK,aW<|x.old.map mD,aW<|x.new.map mD,aw x.label,aw x.for_,iV x.start.kind,iV x.start.day,aw x.start.event,iV x.act,iV x.item,iV x.day,aw x.event,aW<|x.by_.map MH]] 0 0,nV a],[])) (fun a=>x.by_.all GP=a.all GP) (by rfl) (fun _ _ _ _ _ a _=>Kl 3 128 (ln MH x.by_)<|Kh 0 a<|Ky 0<|rr0 true) fun a _ b _ c d e f g _ i _=>have i:=i.trans<|congrArg some<|eZ c;Kl 3 128 (ln MH x.by_)<|Kt 0 g<|Kx 2 i<|Kl 2 138 (ln MH c.by_)<|Ka 1 0 (Int.ofNat c.by_.length) (fun g _=>Kt 0 g<|Kt 0 g<|Kt 0 g<|Mx i<|Mt g<|Kt 0 g<|Kt 0 g<|Mx ((aM MH (sA:0<(c.by_).length)).trans<|congrArg some<|eZ _)<|Mt g<|Kt 0 g<|Kt 0 g<|Kl 0 150 (ln MH (gD c.by_ 0).by_)<|Mt g<|Ku 0 g<|Ka 0 0 (Int.ofNat (gD c.by_ 0).by_.length) (fun a _=>Mt a<|Mt a<|Mt a<|Mt a<|Mt a<|Mt a<|MV a<|Ky 1<|rr0 false) fun g _=>Kh 0 g<|Kh 0 g<|Kh 0 g<|Mx i<|Mh g<|Kh 0 g<|Mp (ih c (by exact aR b f)<|by exact f7 _ (aR b f))<|Mh g<|Kw 0 g<|Mn (mp c) (fun _=>Kf 0<|ca<|rr0 false) fun _=>Kl 1 131 (dg a)<|Kf 0<|e<|by simp_all [GP, Gt]) fun g _=>Mh g<|Mh g<|Mh g<|Mh g<|Mh g<|Mh g<|Mh g<|Mh g<|Mh g<|Mh g<|My g<|Kx 3 i<|Kp 0 (ih c (by exact aR b f)<|by exact f7 _ (aR b f))<|Kn 1 (mp c) (fun _=>Kf 0<|ca<|rr0 false) fun _=>Kl 1 131 (dg a)<|Kf 0<|e<|by simp_all [GP, Gt]) fun a _ _ _ b c d _ e _ f _=>Kl 3 113 (ln ax x.to)<|Kt 0 e<|Kx 2 f<|Ka 3 100 (Int.ofNat<|List.length b.label) (fun _ _=>Ky 0<|rr0 false) fun _ _=>Kl 1 116 (dg a)<|Kf 0<|d<|by simp_all [wR]) fun a _ _ _ b c d _ e _ f _=>Kl 3 98 (ln ax x.at_)<|Kt 0 e<|Kx 2 f<|Ka 3 100 (Int.ofNat<|List.length b.label) (fun _ _=>Ky 0<|rr0 false) fun _ _=>Kl 1 101 (dg a)<|Kf 0<|d<|by simp_all [wR]) fun a _ _ _ b c d _ e _ f _=>Kl 3 84 (ln mD x.new)<|Kt 0 e<|Kx 2 f<|Ka 2 100 (Int.ofNat<|List.length b) (fun _ _=>Ky 0<|rr0 false) fun _ _=>Kl 1 87 (dg a)<|Kf 0<|d<|by simp_all [wS]) fun a _ _ _ b c d _ e _ f _=>Kl 3 70 (ln mD x.old)<|Kt 0 e<|Kx 2 f<|Ka 2 100 (Int.ofNat<|List.length b) (fun _ _=>Ky 0<|rr0 false) fun _ _=>Kl 1 73 (dg a)<|Kf 0<|d<|by simp_all [wS]
noncomputable def Aw (most n:Int) (a:PAct):Bool:=ar most (n+Int.ofNat a.items.length) || (ar 100 (Int.ofNat a.title.length) || (ar 60 (Int.ofNat a.start.event.length) || ak (a.items.all mp)))
noncomputable def ll (most:Int):List PAct→Int→Option Int
  | [],n=>some n
  | a::r,n=>match Aw most n a with | true=>none | false=>ll most r (n+Int.ofNat a.items.length)
noncomputable def vk (g:PGaz):Bool:=ar 8 (Int.ofNat g.acts.length) || ar 60 (Int.ofNat g.prior.length)
noncomputable def tF (most:Int):List PGaz→Int→Bool
  | [],_=>true
  | g::r,n=>match vk g with | true=>false | false=>match ll most g.acts n with | none=>false | some m=>tF most r m
noncomputable def MB (gs:List PGaz) (most:Int):Bool:=match ar 8 (Int.ofNat gs.length) with | true=>false | false=>tF most gs 0
theorem To (gs:List PGaz) (most:Int) (hf:pU gs) (m1:0≤most) (m2:most≤2 ^ 20):kP 31 [.ls (gs.map aU),iV most] (.bool (MB gs most)):=by
  obtain ⟨f0,f1⟩:=hf
  have fa : ∀ g,g∈gs→∀ a,a∈g.acts→a.items.length<2 ^ 60:=fun g hg a ha=>((f1 g hg).2 a ha).1
  have fb : ∀ g,g∈gs→g.acts.length<2 ^ 60:=fun g hg=>(f1 g hg).1
  have rr0 b' (h:(MB gs most)=b':=by simp only [MB,tF,vk,ll,Aw,aS,ak,bS, *]):=h;exact bo Tryz.func31<|Kl 2 11 (ln aU gs)<|Ka 0 8 (Int.ofNat gs.length) (fun _ _=>Ky 0<|rr0 false) fun _ _=>Mg 1<|Nl aU gs (0:Int) [0,1,5,6] (fun b _ c=>([aW<|gs.map aU,iV most,iV c,nV b],[])) (fun b c=>(0:Int)≤c∧c≤most∧tF most gs (0:Int)=tF most b c) (by (refine ⟨by omega,by omega,?_⟩;first | rfl | (simp only [tF,vk,ll,aS,ak,bS, *]))) (fun _ _ _ _ _ _ b _=>Kl 2 15 (ln aU gs)<|Kh 0 b<|Ky 0<|rr0 true) fun b _ c d _ e f i j k _ l m=>Kl 2 15 (ln aU gs)<|Kt 0 k<|Kx 1 l<|Kl 2 24 (ln aj e.acts)<|Ka 1 8 (Int.ofNat e.acts.length) (fun b _=>Mt b<|Mt b<|Mt b<|Mt b<|Mt b<|Mt b<|MV b<|Ky 1<|rr0 false) fun k _=>Kh 0 k<|Kh 0 k<|Mx l<|Mh k<|Kh 0 k<|Kh 0 k<|Kh 0 k<|Kw 0 k<|Mb (ar 60<|Int.ofNat<|List.length e.prior) (fun b=>have :=au b;Ky 0<|rr0 false) fun k=>have :=aB k;Mg 0<|Nl aj e.acts c [0,1,5,6,7] (fun c _ d=>([aW<|gs.map aU,iV most,iV d,nV b,nV c],[])) (fun b d=>(0:Int)≤d∧d≤most∧ll most e.acts c=ll most b d) (by (exact ⟨m.1,m.2.1,rfl⟩)) (fun _ _ c _ _ _ d _=>Kx 2 l<|Kl 2 41 (ln aj e.acts)<|Kh 0 d<|Kl 1 18 (dg b)<|Kf 0<|i c<|by (refine ⟨by omega,by omega,?_⟩;first | rfl | (simp only [tF,vk,ll,aS,ak,bS, *]))) fun f _ i k _ m n o p q _ r _=>have :=fa e (aR d j) m<|aR k p;have :=fb e<|aR d j;Kx 2 l<|Kl 2 41 (ln aj e.acts)<|Kt 0 q<|Kx 1 l<|Kx 2 r<|Kl 6 56 (ln MH m.items)<|Kl 0 57 (Le.wr (x:=i+Int.ofNat m.items.length) ef)<|Ka 4 most (i+Int.ofNat m.items.length) (fun b _=>Mt b<|Mt b<|Mt b<|MV b<|Ky 3<|rr0 false) fun l _=>Kh 0 l<|Kh 0 l<|Kh 0 l<|Kw 0 l<|Ka 0 100 (Int.ofNat<|List.length m.title) (fun b _=>Mt b<|Mt b<|Mt b<|Mt b<|MV b<|Ky 1<|rr0 false) fun l _=>Kh 0 l<|Kh 0 l<|Kh 0 l<|Kh 0 l<|Kw 0 l<|Mb (ar 60<|Int.ofNat<|List.length m.start.event) (fun b=>have :=au b;Ky 0<|rr0 false) fun l=>have :=aB l;K1 0 (.frz 0 [0,1,5,6,7,8,9]) ti<|sl MH m.items [0,1,5,6,7,8,9] (fun c _=>([aW<|gs.map aU,iV most,iV<|i+Int.ofNat m.items.length,nV b,nV f,AV.pptr [ay [iV m.number,aw m.title,iV m.day,iV m.start.kind,iV m.start.day,aw m.start.event,aW<|m.items.map MH]] 0 0,nV c],[])) (fun b=>m.items.all mp=b.all mp) (by rfl) (fun _ _ _ _ _ b _=>Kl 3 77 (ln MH m.items)<|Kh 0 b<|Kl 1 44 (dg f)<|Kf 0<|o (i+Int.ofNat m.items.length)<|by (refine ⟨by (simp only [oN] at *;omega),by assumption,?_⟩;simp only [ll,Aw,aS,ak,bS, *])) fun b _ c _ e f i l n _ o _=>have o:=o.trans<|congrArg some<|eZ e;Kl 3 77 (ln MH m.items)<|Kt 0 n<|Kx 2 o<|Kp 0 (Tn e<|by first | exact ((f1 _ (aR d j)).2 _ (aR k p)).2 _ (aR c l))<|Kn 0 (mp e) (fun _=>Kf 0<|ca<|rr0 false) fun _=>Kl 1 80 (dg b)<|Kf 0<|i<|by simp only [aS,ak,bS, *] at *
noncomputable def MA (gs:List PGaz) (p:aN):Bool:=MB gs 24 && ak (ar 60 (Int.ofNat p.length))
theorem Tm (gs:List PGaz) (p:aN) (hf:pU gs):kP 10 [.ls (gs.map aU), .str p] (.bool (MA gs p)):=by
  have rr0 b' (h:(MA gs p)=b':=by simp only [MA,aS,ak,bS, *]):=h;exact bo Tryz.func10<|Kp 1 (To gs 24 hf oA oA)<|Kb 0 (MB gs 24) (fun a=>Kt 0 a<|Kt 0 a<|Ku 0 a<|Kf 0<|ca<|rr0<|ak<|ar 60<|Int.ofNat<|List.length p) fun a=>Mh a<|Mh a<|My a<|Ky 0<|rr0 false
theorem Y3 (l:aN) (g:Nat) (p:UInt8→Bool) (hp : ∀ s,s∈l→kP g [.int .u8 (.ofNat s.toNat)] (.bool (p s))) (hl:l.length<2 ^ 40):kP 374 [.ls (l.map nW), .func (.func g) [] []] (iV (di p l 0)):=by
  have rr0 b' (h:(di p l 0)=b':=by first | exact lL zd0 hr0 hj0 ‹_› | exact hj0):=h;exact bo Tryz.func374<|Kl 2 7 (ln nW l)<|Mg 0<|sl nW l [0,1,7,8] (fun a _=>([aW<|l.map nW,bJ (bW g) [] [],nV<|List.length l,nV a],[])) (fun a=>di p l (0:Nat)=di p a (List.length l - a.length)) sA (fun _ _ zd0 _ hr0 a hj0=>Kh 0 a<|Kf 0<|li<|rr0 (-1)) fun a _ zd0 _ b c d hr0 e _ f hj0=>Kt 0 e<|Kx 4 f<|Kp 0 (hp b<|by exact aR zd0 hr0)<|Mb (p b) (fun _=>Kf 1<|li<|rr0<|Int.ofNat a) fun _=>Kl 0 18 (dg a)<|Kf 0<|d<|by exact jS zd0 hr0 hj0 (by omega)
theorem ZQ (l:aN) (g:Nat) (p:UInt8→Bool) (hp : ∀ s,s∈l→kP g [.int .u8 (.ofNat s.toNat)] (.bool (p s))) (hl:l.length<2 ^ 40):kP 353 [.ls (l.map nW), .func (.func g) [] []] (.bool (l.any p)):=by
  have h:=Y3 l g p hp hl
  have rr0 b' (h:(List.any l p)=b':=by (rw [kN];simp only [aS,ak,bS,rU])):=h;exact bo Tryz.func353<|Kp 2 h<|Kf 1<|ca<|rr0<|ak<|ar (di p l 0) 0
theorem Nt (c:UInt8):kP 352 [.int .u8 (.ofNat c.toNat)] (.bool (ak (Pu 33 126 c))):=by
  have rr0 b' (h:(ak (Pu 33 126 c))=b':=by (simp only [Pu,aS,ak,bS,rU, *])):=h;exact bo Tryz.func352<|Kb 3 (ar (Int.ofNat c.toNat) 33) (fun a=>Mt a<|MV a<|Ky 0<|rr0 true) fun a=>Kh 0 a<|Kw 0 a<|Kf 0<|ca<|rr0<|ar 126<|Int.ofNat c.toNat
theorem Ru (s:aN) (hs:s.length≤2 ^ 39):kP 306 [.str s] (.bool (rx s)):=by
  have h:=ZQ s 352 _ (fun c _=>Nt c) (by omega)
  have rr0 b' (h:(rx s)=b':=by first | (simp only [rx,aS,ak,bS, *];done) | (rw [rx,Qf,List.all_eq_not_any_not];simp only [DZ,aS,ak,bS, *] at *)):=h;let q:=List.map nW s;exact bo Tryz.func306<|Kn 4 (dM s (ByteArray.mk #[]).data.toList) (fun a=>Kt 0 (cQ a)<|Kt 0 (cQ a)<|Ku 0 (cQ a)<|Kn 0 (ar 24<|Int.ofNat<|List.length s) (fun a=>Kt 0 (cQ a)<|Mv (T2 (s:=s) (H:=aa []) (oA:(s).length≤2 ^ 40))<|Mt (cQ a)<|Kt 0 (cQ a)<|Mp (aP.onArgs (.cons (fK q _<|aX Uu s)<|lc .nil) h:kP 353 [iK q false,bJ (bW 352) [] []] _)<|Mt (cQ a)<|Ku 0 (cQ a)<|Kf 0<|ca<|rr0<|ak<|List.any s fun a=>ak<|Pu 33 126 a) fun a=>Mh (bO a)<|Mh (bO a)<|Mh (bO a)<|Mh (bO a)<|My (bO a)<|Ky 0<|rr0 false) fun a=>Mh (bO a)<|Mh (bO a)<|My (bO a)<|Ky 2<|rr0 false
theorem Y2 (l:List aN) (g:Nat) (p:aN→Bool) (hp : ∀ s,s∈l→kP g [.str s] (.bool (p s))) (hl:l.length<2 ^ 40):kP 351 [.ls (l.map mD), .func (.func g) [] []] (iV (di p l 0)):=by
  have rr0 b' (h:(di p l 0)=b':=by first | exact lL zd0 hr0 hj0 ‹_› | exact hj0):=h;exact bo Tryz.func351<|Kl 2 7 (ln mD l)<|Mg 0<|sl mD l [0,1,7,8] (fun a _=>([aW<|l.map mD,bJ (bW g) [] [],nV l.length,nV a],[])) (fun a=>di p l (0:Nat)=di p a (l.length - a.length)) sA (fun _ _ zd0 _ hr0 a hj0=>Kh 0 a<|Kf 0<|li<|rr0 (-1)) fun a _ zd0 _ b c d hr0 e _ f hj0=>Kt 0 e<|Kx 4 f<|Kp 0 (hp b<|by exact aR zd0 hr0)<|Mb (p b) (fun _=>Kf 1<|li<|rr0<|Int.ofNat a) fun _=>Kl 0 18 (dg a)<|Kf 0<|d<|by exact jS zd0 hr0 hj0 (by omega)
theorem Y9 (l:List aN) (g:Nat) (p:aN→Bool) (hp : ∀ s,s∈l→kP g [.str s] (.bool (p s))) (hl:l.length<2 ^ 40):kP 304 [.ls (l.map mD), .func (.func g) [] []] (.bool (l.any p)):=by
  have h:=Y2 l g p hp hl
  have rr0 b' (h:(l.any p)=b':=by (rw [kN];simp only [aS,ak,bS,rU])):=h;exact bo Tryz.func304<|Kp 2 h<|Kf 1<|ca<|rr0<|ak<|ar (di p l 0) 0
theorem LX (s:aN) (hs:s.length≤2 ^ 39):kP 305 [.str s] (.bool (ak (rx s))):=by
  exact bo Tryz.func305<|Kp 1 (Ru s hs)<|Kf 1<|bq<|dB<|ak<|rx s
theorem Ji (l:List aN) (hl:l.length<2 ^ 40) (hs : ∀ s,s∈l→s.length≤2 ^ 39):kP 245 [.ls (l.map mD)] (.bool (pM l)):=by
  have h:=Y9 l 305 _ (fun s m=>LX s (hs s m)) hl
  have rr0 b' (h:(pM l)=b':=by first | (simp only [pM,aS,ak,bS, *];done) | (rw [pM,List.all_eq_not_any_not];simp only [aS,ak,bS, *])):=h;exact bo Tryz.func245<|Kl 2 4 (ln mD l)<|Kn 1 (ar 256<|Int.ofNat l.length) (fun a=>Kt 0 (cQ a)<|Mp h<|Mt (cQ a)<|Ku 0 (cQ a)<|Kf 0<|ca<|rr0<|ak<|l.any fun a=>ak<|rx a) fun a=>Mh (bO a)<|Mh (bO a)<|My (bO a)<|Ky 0<|rr0 false
theorem Ou (r:Int):kP 308 [.int .i32 r] (.bool (ar r 48 || ar 57 r)):=by
  have rr0 b' (h:(ar r 48 || ar 57 r)=b':=by (simp only [aS,ak,bS, *])):=h;exact bo Tryz.func308<|Kb 3 (ar r 48) (fun a=>Mt a<|MV a<|Ky 0<|rr0 true) fun a=>Kh 0 a<|Kw 0 a<|Kf 0<|ca<|rr0<|ar 57 r
theorem So (r:Int):kP 247 [.int .i32 r] (.bool (ar r 65 || ar 90 r)):=by
  have rr0 b' (h:(ar r 65 || ar 90 r)=b':=by (simp only [aS,ak,bS, *])):=h;exact bo Tryz.func247<|Kb 3 (ar r 65) (fun a=>Mt a<|MV a<|Ky 0<|rr0 true) fun a=>Kh 0 a<|Kw 0 a<|Kf 0<|ca<|rr0<|ar 90 r
theorem G9 (s:PStep):kP 176 [ax s] (.bool (ae s.kind 0 && dM s.label [])):=by
  have rr0 b' (h:(ae s.kind 0 && dM s.label [])=b':=by (simp only [aS,ak,bS, *];first | done | rfl)):=h;exact bo Tryz.func176<|Kb 5 (ae s.kind 0) (fun a=>Kt 0 a<|Kt 0 a<|Ku 0 a<|Kf 0<|ca<|rr0<|dM s.label (ByteArray.mk #[]).data.toList) fun a=>Mh a<|Mh a<|My a<|Ky 0<|rr0 false
theorem ur (n a b:Int):kP 172 [iV n,iV a,iV b] (.bool (ak (ar n a) && ak (ar b n))):=by
  have rr0 b' (h:(ak (ar n a) && ak (ar b n))=b':=by (simp only [aS,ak,bS, *])):=h;exact bo Tryz.func172<|Kn 4 (ar n a) (fun c=>Kt 0 (cQ c)<|Kt 0 (cQ c)<|Ku 0 (cQ c)<|Kf 0<|ca<|rr0<|ak<|ar b n) fun c=>Mh (bO c)<|Mh (bO c)<|My (bO c)<|Ky 0<|rr0 false
theorem PD (s:aN):kP 307 [.str s, .func (.func 308) [] []] (iV (bif Nat.beq (eJ j7 s) s.length then -1 else Int.ofNat (eJ j7 s))):=
  zj iG (Go.Proofs.enters_of Go.Proofs.Tryz.lidxf.f15 (by kernel_rfl) rfl) (Go.Proofs.enters_of Tryz.func308 (by kernel_rfl) rfl)
    (fun s w hp=>Go.Proofs.Any.strings_IndexFunc_grows Go.Proofs.Tryz.lidxf 308 #[] (Go.Proofs.enters_of Tryz.func308 (by kernel_rfl) rfl) _ s w hp) Ou (fun _=>rfl) (GH (lo:=48) (hi:=57) (by omega)) s
theorem PE (s:aN) (h:By (Nat.beq (eJ j7 s) s.length) true):kP 307 [.str s, .func (.func 308) [] []] (iV (-1)):=by
  have:=PD s
  simp_all
theorem Tq (s:aN) (h:By (Nat.beq (eJ j7 s) s.length) false):kP 307 [.str s, .func (.func 308) [] []] (nV (eJ j7 s)):=by
  have:=PD s
  grind
theorem Yl (s:aN):kP 248 [.str s, .func (.func 247) [] []] (.bool (ak (s.all WK))):=
  uV iG (Go.Proofs.enters_of Go.Proofs.Tryz.lconf.f17 (by kernel_rfl) rfl) (Go.Proofs.enters_of Tryz.func247 (by kernel_rfl) rfl)
    (fun s w hp=>Go.Proofs.Any.strings_ContainsFunc_grows Go.Proofs.Tryz.lconf 247 #[] (Go.Proofs.enters_of Tryz.func247 (by kernel_rfl) rfl) _ s w hp) So (fun _=>rfl) (GH (lo:=65) (hi:=90) (by omega)) s
theorem Lm (s:aN) (hs:s.length≤2 ^ 39):kP 246 [.str s] (.tuple [.str (s.take (eJ j7 s)), .str (s.drop (eJ j7 s))]):=by
  have hl:=Jf (p:=j7) (s:=s)
  have rr0 b' (h:(s.take (eJ j7 s))=b':=by (rw [pX h0];simp)):=h;have rr1 b' (h:(s.drop (eJ j7 s))=b':=by (rw [pX h0];simp)):=h;let q:=AHeap.mk 1000000 Tr.nil;exact bo Tryz.func246<|Ks 2 ((eJ j7 s).beq<|List.length s) (fun h0=>Mp (PE s h0)<|Kf 6<|cp<|.cons (Le.str<|rr0 s)<|.cons (Le.str<|rr1 []) .nil) fun h0=>Mp (Tq s h0)<|Kv 5 (U2 (s:=s) (n:=eJ j7 s) (k:=IntKind.i64) (H:=q) oA)<|Kv 1 (U1 (s:=s) (l:=eJ j7 s) (k:=IntKind.i64) (H:=q) oA)<|Kf 1<|bq<|cj [aw<|s.take<|eJ j7 s,aw<|s.drop<|eJ j7 s]
theorem tc (s:aN) (hs:s.length≤2 ^ 39):kP 167 [.str s] (.bool (jP s)):=by
  have hd:(s.drop (eJ j7 s)).length≤2 ^ 39:=by grind
  have rr0 b' (h:(jP s)=b':=by first | (simp only [jP,aS,ak,bS,rU, *];done) | (simp only [jP,aS,ak,bS,rU, *];rfl) | (unfold jP;simp only [h0,h1,h2];rfl)):=h;exact bo Tryz.func167<|Kp 1 (Lm s hs)<|Kd 9 (Int.ofNat (s.take<|eJ j7 s).length) 1 (fun h0 _=>Kt 0 (cQ h0)<|Kt 0 (cQ h0)<|Ku 0 (cQ h0)<|Kd 0 4 (Int.ofNat (s.take<|eJ j7 s).length) (fun h1 _=>Kt 0 (cQ h1)<|M1 (.chr<|gD (s.take<|eJ j7 s) 0) (yC (gR:0<(s.take (eJ j7 s)).length))<|Mt (cQ h1)<|Ku 0 (cQ h1)<|Kc 0 (Int.ofNat (gD (s.take<|eJ j7 s) 0).toNat) 48 (fun h2 _=>Kt 0 (cQ h2)<|Kt 0 (cQ h2)<|Ku 0 (cQ h2)<|Kd 0 3 (Int.ofNat (s.drop<|eJ j7 s).length) (fun a _=>Kt 0 (cQ a)<|Kt 0 (cQ a)<|Mp (Yl<|s.drop<|eJ j7 s)<|Mt (cQ a)<|Ku 0 (cQ a)<|Kf 0<|ca<|rr0<|ak<|ak<|(s.drop<|eJ j7 s).all WK) fun a _=>Mh (bO a)<|Mh (bO a)<|Mh (bO a)<|My (bO a)<|Ky 0<|rr0 false) fun h2 _=>Mh (bO h2)<|Mh (bO h2)<|My (bO h2)<|Ky 2<|rr0 false) fun h1 _=>Mh (bO h1)<|Mh (bO h1)<|My (bO h1)<|Ky 4<|rr0 false) fun h0 _=>Mh (bO h0)<|Mh (bO h0)<|My (bO h0)<|Ky 6<|rr0 false
theorem ue (p:List PStep) (hl:p.length<2 ^ 40) (hs : ∀ s,s∈p→s.label.length≤2 ^ 39):kP 81 [.ls (p.map ax)] (.bool (kq p)):=by
  have rr0 b' (h:(kq p)=b':=by first | (rw [kq,hj0,UK];rfl) | (rw [kq,DG zd0 hr0 hj0];simp only [mN,sL,‹ae (Int.ofNat zi0) 0=_›,cond_true,cond_false];simp only [DZ,aS,ak,bS, *];first | done | rfl)):=h;exact bo Tryz.func81<|Kl 2 6 (ln ax p)<|Mg 0<|sl ax p [0,5,6,7] (fun a _=>([aW<|p.map ax,aW<|p.map ax,nV p.length,nV a],[])) (fun a=>Nq p=G8 p a) (by (exact NU)) (fun zi0 _ zd0 _ hr0 a hj0=>Kh 0 a<|Kl 1 34 (ln ax p)<|Kf 1<|ca<|rr0<|ak<|ar 9<|Int.ofNat p.length) fun zi0 _ zd0 _ a b c hr0 d _ e hj0=>Kt 0 d<|Kx 0 e<|Kj 6 (Int.ofNat zi0) 0 (fun d _=>Kt 0 d<|Mp (G9 a)<|MV d<|Mb (ae a.kind 0 && dM a.label []) (fun _=>Kl 0 32 (dg zi0)<|K1 0 (.frz 0 [0,5,6,7]) ti<|Mf<|c<|by (rw [DG zd0 hr0 hj0];simp only [mN,sL,‹ae (Int.ofNat zi0) 0=_›,cond_true,cond_false];simp only [DZ,aS,ak,bS, *];first | done | rfl)) fun _=>Kd 3 0 a.kind (fun a _=>Mt (cQ a)<|Mt (cQ a)<|MV (cQ a)<|Ky 3<|rr0 false) fun d _=>Kh 0 (bO d)<|Kh 0 (bO d)<|Kw 0 (bO d)<|Ka 0 7 a.kind (fun a _=>Mt a<|Mt a<|Mt a<|MV a<|Ky 1<|rr0 false) fun d _=>Kh 0 d<|Kh 0 d<|Mp (tc a.label<|by exact hs _ (aR zd0 hr0))<|Mh d<|Kw 0 d<|Mn (jP a.label) (fun _=>Kf 0<|ca<|rr0 false) fun _=>Kl 0 32 (dg zi0)<|K1 0 (.frz 0 [0,5,6,7]) ti<|Mf<|c<|by (rw [DG zd0 hr0 hj0];simp only [mN,sL,‹ae (Int.ofNat zi0) 0=_›,cond_true,cond_false];simp only [DZ,aS,ak,bS, *];first | done | rfl)) fun d _=>Mh d<|My d<|Kd 4 0 a.kind (fun a _=>Mt (cQ a)<|Mt (cQ a)<|MV (cQ a)<|Ky 3<|rr0 false) fun d _=>Kh 0 (bO d)<|Kh 0 (bO d)<|Kw 0 (bO d)<|Ka 0 7 a.kind (fun a _=>Mt a<|Mt a<|Mt a<|MV a<|Ky 1<|rr0 false) fun d _=>Kh 0 d<|Kh 0 d<|Mp (tc a.label<|by exact hs _ (aR zd0 hr0))<|Mh d<|Kw 0 d<|Mn (jP a.label) (fun _=>Kf 0<|ca<|rr0 false) fun _=>Kl 0 32 (dg zi0)<|K1 0 (.frz 0 [0,5,6,7]) ti<|Mf<|c<|by (rw [DG zd0 hr0 hj0];simp only [mN,sL,‹ae (Int.ofNat zi0) 0=_›,cond_true,cond_false];simp only [DZ,aS,ak,bS, *];first | done | rfl)
theorem TU (l:List Int) (v:Int) (hl:l.length<2 ^ 40):kP 340 [.ls (l.map ab),iV v] (iV (di (ae v) l 0)):=by
  have rr0 b' (h:(di (ae v) l 0)=b':=by first | exact lL zd0 hr0 hj0 ‹_› | exact hj0):=h;exact bo Tryz.func340<|Kl 2 7 (ln ab l)<|Mg 0<|sl ab l [0,1,7,8] (fun a _=>([aW<|l.map ab,iV v,nV l.length,nV a],[])) (fun a=>di (ae v) l (0:Nat)=di (ae v) a (l.length - a.length)) sA (fun _ _ zd0 _ hr0 a hj0=>Kh 0 a<|Kf 0<|li<|rr0 (-1)) fun a _ zd0 _ b c d hr0 e _ f hj0=>Kt 0 e<|Kx 4 f<|Kj 1 v b (fun _ _=>Kf 1<|li<|rr0<|Int.ofNat a) fun _ _=>Kl 0 18 (dg a)<|Kf 0<|d<|by exact jS zd0 hr0 hj0 (by omega)
theorem qN (l:List Int) (v:Int) (hl:l.length<2 ^ 40):kP 294 [.ls (l.map ab),iV v] (.bool (l.any (ae v))):=by
  have h:=TU l v hl
  have rr0 b' (h:(l.any (ae v))=b':=by (rw [kN];simp only [aS,ak,bS,rU])):=h;exact bo Tryz.func294<|Kp 2 h<|Kf 1<|ca<|rr0<|ak<|ar (di (ae v) l 0) 0
theorem PC (v:Int):kP 340 [.nils,iV v] (iV (-1)):=by
  let q:= [af,iV v,iV 0,iV 0];exact bo Tryz.func340<|Mg 3<|Wc [0,1,7,8] (q,[]) True 0 ti fun _ _=>Kf 2<|bq<|iV (-1)
theorem GE (v:Int):kP 294 [.nils,iV v] (.bool false):=by
  have h:=PC v
  exact bo Tryz.func294<|Kp 2 h<|Kf 1<|bq<|dB false
theorem YR:kP 369 [iV 0] (.str (cP 0)):=by
  exact wk Tryz.func369 (.go 11 .fin)<|bq<|aw [98,111,111,107]
theorem YP:kP 369 [iV 1] (.str (cP 1)):=by
  exact wk Tryz.func369 (.go 11 .fin)<|bq<|aw [112,97,114,116]
theorem YO:kP 369 [iV 2] (.str (cP 2)):=by
  exact wk Tryz.func369 (.go 11 .fin)<|bq<|aw [115,101,99,116,105,111,110]
theorem YN:kP 369 [iV 3] (.str (cP 3)):=by
  exact wk Tryz.func369 (.go 11 .fin)<|bq<|aw [112,97,114,97,103,114,97,112,104]
theorem YM:kP 369 [iV 4] (.str (cP 4)):=by
  exact wk Tryz.func369 (.go 11 .fin)<|bq<|aw [116,97,98,108,101]
theorem YL:kP 369 [iV 5] (.str (cP 5)):=by
  exact wk Tryz.func369 (.go 11 .fin)<|bq<|aw [114,111,119]
theorem YI:kP 369 [iV 6] (.str (cP 6)):=by
  exact wk Tryz.func369 (.go 11 .fin)<|bq<|aw [99,101,108,108]
theorem YH:kP 369 [iV 7] (.str (cP 7)):=by
  exact wk Tryz.func369 (.go 11 .fin)<|bq<|aw [110,111,116,101]
theorem YG (k:Int) (h:k<0∨7<k):kP 369 [iV k] (.str (cP k)):=by
  rw [H9 h]
  have c:ar k 0=true∨(ar k 0=false∧ar k 8=false):=by
    grind [nQ, lp]
  rcases c with c | ⟨c,d⟩
  · exact bo Tryz.func369<|Kt 3 c<|Mt c<|MV c<|Kf 1<|bq<|aw []
  · exact bo Tryz.func369<|Kh 3 c<|Kh 0 c<|Kw 0 c<|Mt (cQ d)<|Kf 0<|bq<|aw []
theorem wz (k:Int):kP 369 [iV k] (.str (cP k)):=by
  by_cases h:k<0∨7<k
  · grind [YG]
  · grind [YR, YP, YO, YN, YM, YL, YI, YH]
theorem ZZ (p k:Int) (h:p<0∨7<p):kP 223 [iV p,iV k] (.bool (i9 p k)):=by
  unfold i9
  rw [Hd h]
  have c:ar p 0=true∨(ar p 0=false∧ar p 8=false):=by
    grind [nQ, lp]
  rcases c with c | ⟨c,d⟩
  · exact bo Tryz.func223<|Kh 3 (bO c)<|Mh (bO c)<|My (bO c)<|Kf 2<|bq<|dB false
  · exact bo Tryz.func223<|Kt 3 (cQ c)<|Kt 0 (cQ c)<|Ku 0 (cQ c)<|Kh 0 d<|Mh d<|Mh d<|Mh d<|Mh d<|My d<|Kf 0<|bq<|dB false
theorem Zq (k:Int):kP 223 [iV 0,iV k] (.bool (i9 0 k)):=by
  have h:=qN [1,2] k (by grind)
  let q:= [iV 1,iV 2];exact bo Tryz.func223<|Kp 11 (aP.onArgs (.cons (fK q _<|by rfl)<|lc .nil) h:kP 294 [iK q false,iV k] _)<|Kf 1<|bq<|dB<|[1,2].any<|ae k
theorem ZU (k:Int):kP 223 [iV 1,iV k] (.bool (i9 1 k)):=by
  have h:=qN [2] k (by grind)
  let q:= [iV 2];exact bo Tryz.func223<|Kp 11 (aP.onArgs (.cons (fK q _<|by rfl)<|lc .nil) h:kP 294 [iK q false,iV k] _)<|Kf 1<|bq<|dB<|[2].any<|ae k
theorem ZY (k:Int):kP 223 [iV 2,iV k] (.bool (i9 2 k)):=by
  have h:=qN [3,4,7] k (by grind)
  let q:= [iV 3,iV 4,iV 7];exact bo Tryz.func223<|Kp 11 (aP.onArgs (.cons (fK q _<|by rfl)<|lc .nil) h:kP 294 [iK q false,iV k] _)<|Kf 1<|bq<|dB<|[3,4,7].any<|ae k
theorem ZV (k:Int):kP 223 [iV 3,iV k] (.bool (i9 3 k)):=by
  have h:=qN [3,4,7] k (by grind)
  let q:= [iV 3,iV 4,iV 7];exact bo Tryz.func223<|Kp 11 (aP.onArgs (.cons (fK q _<|by rfl)<|lc .nil) h:kP 294 [iK q false,iV k] _)<|Kf 1<|bq<|dB<|[3,4,7].any<|ae k
theorem ZK (k:Int):kP 223 [iV 4,iV k] (.bool (i9 4 k)):=by
  have h:=qN [5] k (by grind)
  let q:= [iV 5];exact bo Tryz.func223<|Kp 11 (aP.onArgs (.cons (fK q _<|by rfl)<|lc .nil) h:kP 294 [iK q false,iV k] _)<|Kf 1<|bq<|dB<|[5].any<|ae k
theorem ZJ (k:Int):kP 223 [iV 5,iV k] (.bool (i9 5 k)):=by
  have h:=qN [6] k (by grind)
  let q:= [iV 6];exact bo Tryz.func223<|Kp 11 (aP.onArgs (.cons (fK q _<|by rfl)<|lc .nil) h:kP 294 [iK q false,iV k] _)<|Kf 1<|bq<|dB<|[6].any<|ae k
theorem ZW (k:Int):kP 223 [iV 6,iV k] (.bool (i9 6 k)):=by
  have h:=GE k
  exact bo Tryz.func223<|Kp 11 h<|Kf 1<|bq<|dB false
theorem ZX (k:Int):kP 223 [iV 7,iV k] (.bool (i9 7 k)):=by
  have h:=GE k
  exact bo Tryz.func223<|Kp 11 h<|Kf 1<|bq<|dB false
theorem yH (p k:Int):kP 223 [iV p,iV k] (.bool (i9 p k)):=by
  by_cases h:p<0∨7<p
  · grind [ZZ]
  · grind [Zq, ZU, ZY, ZV, ZK, ZJ, ZW, ZX]
theorem aA {n b m:Nat} (h1:n≤m) (h2:m≤2 ^ 40) (h3:m * b≤2 ^ 40):small n b=true:=by
  unfold small
  have h4:n * b≤m * b:=ec b h1
  grind [Nat.ble_eq_true_of_le]
noncomputable abbrev vO (u:TUnit):AObj:= .row 8 false 0 [eU u]
def Hv (p:PId) (u:TUnit) (x0:Nat × List TUnit × Unit):Prop:=(u.kids).drop x0.1=x0.2.1∧cw p u.kids=cw p x0.2.1
noncomputable def xP (p:PId) (u:TUnit) (x0:Nat × List TUnit × Unit):List AV × List AObj:=([AV.ptr 0 0 0 0,AV.ptr 1 0 0 0,AV.ls (u.kids.map aK),nV u.kids.length,nV x0.1], [AObj.row 8 false 0 [AV.agg [iV u.act,iV u.item,iV u.n,iV u.kind,AV.str u.label,AV.ls (u.head.map aQ),AV.ls (u.words.map aQ),AV.ls (u.kids.map aK)]],AObj.row 3 false 0 [AV.agg [iV p.a,iV p.i,iV p.n]]])
theorem Ey (p:PId) : ∀ (u:TUnit),nU u≤2 ^ 20→(cW p u=false→kP 86 [eU u,aV p] .nils)∧(cW p u=true→kP 86 [eU u,aV p] (.ps ((aC p u).map aK) false)):=by
  refine TUnit.ind fun u ih hn=>?_
  have ihn : ∀ k,k∈u.kids→By (cW p k) false→kP 86 [eU k,aV p] .nils:=fun k hk h=>(ih k hk (bH (sm (g9 hk)) hn)).1 h
  have ihy : ∀ k,k∈u.kids→By (cW p k) true→kP 86 [eU k,aV p] (.ps ((aC p k).map aK) false):=fun k hk h=>(ih k hk (bH (sm (g9 hk)) hn)).2 h
  have hkl:=ba u
  refine ⟨fun hs=>?_,fun hs=>?_⟩
  · let q:= [ay [iV u.act,iV u.item,iV u.n,iV u.kind,aw u.label,aW (u.head.map aQ),aW (u.words.map aQ),aW (u.kids.map aK)]];let q3:= [iV p.a,iV p.i,iV p.n];exact bo Tryz.func86<|Kv 5 (kS ((Tryz.prog).underlying 27) u.act u.item u.n p.a p.i p.n<|aa [aZ 8 false 0 q,aZ 3 false 0 [ay q3]])<|Mb (ae u.act p.a && (ae u.item p.i && ae u.n p.n)) (fun _=>Kf 2<|eb (by exact absurd (hs.symm.trans (Dx ‹_›)) (by grind):(AV.nils)=(AV.ps q true))) fun _=>Kl 2 16 (ln aK u.kids)<|Mg 0<|Uk (0:Nat) u.kids () [2,3,15,16,17] (fun a _ _=>([bK 0 0 0 0,bK 1 0 0 0,aW<|u.kids.map aK,nV u.kids.length,nV a],[aZ 8 false 0 [ay [iV u.act,iV u.item,iV u.n,iV u.kind,aw u.label,aW<|u.head.map aQ,aW<|u.words.map aQ,aW<|u.kids.map aK]],aZ 3 false 0 [ay [iV p.a,iV p.i,iV p.n]]])) (fun a b _=>(u.kids).drop a=b∧cw p u.kids=cw p b) (fun _ a _=>a.length) (et rfl<|by rfl) fun a b c d e=>Mc b (fun a=>have b:=gJ d.1 a;have :=i7 (J:=fun a _=>cw p u.kids=cw p a) (a:=c) a d.2;Kh 0 b<|Kf 0<|bq af) fun b f g=>let i:=List.map aK<|[u]++aC p b;have j:=gU d.1 g;have :=au j;have l:=(gX (enc:=aK) d.1 g).trans<|congrArg some<|aI b;have c:=cD (J:=fun a _=>cw p u.kids=cw p a) (a:=c) g d.2;have :nU b<nU u:=g9<|aR d.1 g;have :(aC p b).length≤nU b:=lu b;Kt 0 j<|Mx l<|Ks 4 (cW p b) (fun a=>Mp (ihy b (by exact aR d.1 g) a)<|Mg 6<|M2 .apl (et (by simp_all [ku]:List.map aK (aC p b)≠ [])<|gk (sz:=8) (f:=aK) (fun _=>by (rw [aI];rfl))<|aC p b) (et (by (refine aA (m:=2 ^ 21) ?_ ?_ ?_ <;> (try simp only [lM,lC,lN]) <;> (have:=lu (p:=p) b;omega)):small (([AV.agg [iV u.act,iV u.item,iV u.n,iV u.kind,AV.str u.label,AV.ls (u.head.map aQ),AV.ls (u.words.map aQ),AV.ls (u.kids.map aK)]]).length+((aC p b).map aK).length) 120=true) rt)<|M1 (.obj 3<|aZ 8 true 0 i) (congrArg (aZ 8 true 0) (by (simp only [pQ,eW,vB,aI,eZ] <;> rfl):[AV.agg [iV u.act,iV u.item,iV u.n,iV u.kind,AV.str u.label,AV.ls (u.head.map aQ),AV.ls (u.words.map aQ),AV.ls (u.kids.map aK)]]++List.map aK (aC p b)=List.map aK ([u]++aC p b)))<|Mg 0<|M2 (.fsl 0 [] 4 i) ti (bT (aY 0) (tA aK ([u]++aC p b) (q++List.map aK (aC p b)).length (sA:([u]++aC p b).length=([AV.agg [iV u.act,iV u.item,iV u.n,iV u.kind,AV.str u.label,AV.ls (u.head.map aQ),AV.ls (u.words.map aQ),AV.ls (u.kids.map aK)]]++List.map aK (aC p b)).length))<|aX gH<|[u]++aC p b)<|Ml 4 (fK i false<|aX gH<|[u]++aC p b)<|Mf<|eb (by exact absurd (hs.symm.trans (Tw (by assumption) c (by omega))) (by grind):(AV.nils)=(AV.ls i))) fun c=>Mp (ihn b (by exact aR d.1 g) c)<|Kl 4 30 (dg a)<|K1 0 (.frz 2 [2,3,15,16,17]) (bT rt rt ti)<|Mf<|e (a+1) f () (et (bM d.1 g)<|by grind [ip])<|fw g
  · have rr0 : ∀ b',(h:((aC p u).map aK)=b':=by first | rfl | exact absurd (hs.symm.trans (FL (by assumption) hj0)) (by decide) | (rw [sC (by assumption),eW,aI];rfl) | (rw [I8 (by assumption) hj0 (by assumption)];rfl))→((aC p u).map aK)=b':=(fun _ h=>h);let q:= [ay [iV u.act,iV u.item,iV u.n,iV u.kind,aw u.label,aW (u.head.map aQ),aW (u.words.map aQ),aW (u.kids.map aK)]];let q3:= [iV p.a,iV p.i,iV p.n];exact bo (hv:=(aX gH (aC p u))) Tryz.func86 (Kv 5 (DF (d:=(Tryz.prog).underlying 27) (n:=3) (l:=(0,1)::(1,1)::(2,1):: []) (xs:= [iV u.act,iV u.item,iV u.n]) (ys:=q3) (H:=aa [aZ 8 false 0 q,aZ 3 false 0 [ay q3]]) rfl (mr (e:=ae u.act p.a) rfl rfl rfl (mr (e:=ae u.item p.i) rfl rfl rfl (zt (e:=ae u.n p.n) rfl rfl rfl rfl)))) (Mb (ae u.act p.a && (ae u.item p.i && ae u.n p.n)) (fun h0=>Kf 2 ((Ri (rr0 q)):Le _ (iK q true))) (fun h0=>Kl 2 16 (Le.len (f:=aK) (l:=u.kids)) (Mg 0 (ML (Nat × List TUnit × Unit) [2,3,15,16,17] (xP p u) (Hv p u) (fun x=>x.2.1.length) (0,u.kids,()) (aY ((xP p u) (0,u.kids,()))) (et (rfl:List.drop 0 (u.kids)=u.kids) (by rfl:(cw p u.kids=cw p u.kids))) (fun x0 hx0 nx0=>Mc x0.2.1 (fun hr0=>have lt0:=gJ hx0.1 hr0;have hj0:=i7 (J:=fun r x=>cw p u.kids=cw p r) (a:=x0.2.2) hr0 hx0.2;(Kh 0 lt0 (Kf 0 (eb (by exact absurd (hs.symm.trans (FL (by assumption) hj0)) (by grind):(AV.ps ((aC p u).map aK) false)=(AV.nils)))))) (fun w0 r0 hr0=>let q2:=List.map aK ([u]++aC p w0);have lt0:=gU hx0.1 hr0;have glt0:=au lt0;have nt0:=(gX (enc:=aK) hx0.1 hr0).trans (congrArg some (aI w0));have hj0:=cD (J:=fun r x=>cw p u.kids=cw p r) (a:=x0.2.2) hr0 hx0.2;have q0:nU w0<nU u:=g9 (aR hx0.1 hr0);have q1:(aC p w0).length≤nU w0:=lu w0;(Kt 0 lt0 (Mx nt0 (Ks 4 (cW p w0) (fun h2=>Mp (ihy w0 (by exact aR hx0.1 hr0) h2) (Mg 6 (M2 .apl (et (by simp_all [ku]:List.map aK (aC p w0)≠ []) (gk (sz:=8) (f:=aK) (fun _=>by (rw [aI];rfl)) (aC p w0))) (et (by (refine aA (m:=2 ^ 21) ?_ ?_ ?_ <;> (try simp only [lM,lC,lN]) <;> (have:=lu (p:=p) w0;omega)):small (([AV.agg [iV u.act,iV u.item,iV u.n,iV u.kind,AV.str u.label,AV.ls (u.head.map aQ),AV.ls (u.words.map aQ),AV.ls (u.kids.map aK)]]).length+((aC p w0).map aK).length) 120=true) rt) (M1 (.obj 3 (aZ 8 true 0 q2)) (congrArg (aZ 8 true 0) (by (simp only [pQ,eW,vB,aI,eZ] <;> rfl) : [AV.agg [iV u.act,iV u.item,iV u.n,iV u.kind,AV.str u.label,AV.ls (u.head.map aQ),AV.ls (u.words.map aQ),AV.ls (u.kids.map aK)]]++List.map aK (aC p w0)=List.map aK ([u]++aC p w0))) (Mg 0 (M2 (.fsl 0 [] 4 q2) ti (bT (aY (0)) (JU (f:=aK) (l:= [u]++aC p w0) (n:=(q++List.map aK (aC p w0)).length) (by simp_all:([u]++aC p w0).length=([AV.agg [iV u.act,iV u.item,iV u.n,iV u.kind,AV.str u.label,AV.ls (u.head.map aQ),AV.ls (u.words.map aQ),AV.ls (u.kids.map aK)]]++List.map aK (aC p w0)).length)) (aX gH ([u]++aC p w0))) (Mf ((Ri (rr0 q2)):Le _ (iK q2 false))))))))) (fun h2=>Mp (ihn w0 (by exact aR hx0.1 hr0) h2) (Kl 4 30 (Le.wr (x:=Int.ofNat x0.1+1) ef) (K1 0 (.frz 2 [2,3,15,16,17]) (bT rt rt ti) (Mf (nx0 (x0.1+1,r0,()) (et (bM hx0.1 hr0) (by grind [ip]:(cw p u.kids=cw p r0))) (fw hr0))))))))))))))))
theorem I9 (p:PId) (u:TUnit) (h:By (cW p u) false) (hn:nU u≤2 ^ 20):kP 86 [eU u,aV p] .nils:=(Ey p u hn).1 h
theorem Ew (p:PId) (u:TUnit) (h:By (cW p u) true) (hn:nU u≤2 ^ 20):kP 86 [eU u,aV p] (.ps ((aC p u).map aK) false):=(Ey p u hn).2 h
theorem QN:kP 183 [.nils] .nils:=by
  exact wk Tryz.func183 (.go 4 .fin)<|bq af
theorem QM:kP 183 [.ps [] false] (.ps [] true):=by
  exact wk Tryz.func183 (.go 7 .fin)<|bq<|iK [] true
theorem QO (w:PWord) (r:List PWord) (hl:r.length<2 ^ 30):kP 183 [.ls ((w::r).map aQ)] (.ls ((w::r).map aQ)):=by
  let q:=List.map aQ (w::r);exact bo Tryz.func183<|Mg 1<|Mz 3 (fun (a:((w::r).map aQ:List AV) = [])=>Mw .abs<|kX _ _ a)<|Mg 3<|M2 .apl (et (sA:List.map aQ (w::r)≠ [])<|fM 4 aQ (w::r) fun _=>rfl) (by (refine aA (m:=2 ^ 31) ?_ ?_ ?_ <;> first | omega | grind):small ((w::r).map aQ).length 40=true)<|Mg 0<|M2 (.fsl 0 [] 2 q) ti (bT (aY 0) (tA aQ (w::r) q.length (sA:(w::r).length=((w::r).map aQ).length))<|aX ia<|w::r)<|Ml 2 (fK q false<|aX ia<|w::r)<|Mf<|bq<|aW q
theorem Lr (p:PId) (u:TUnit) (h:By (cW p u) false) (hn:nU u≤2 ^ 20):kP 242 [eU u, .pptr [aV p] 0 0] (.bool false):=by
  have h':cW p u=false:=h
  exact bo Tryz.func242<|Kp 3 (I9 p u h hn)<|Kf 1<|bq<|dB false
theorem Lp (p:PId) (u:TUnit) (h:By (cW p u) true) (hn:nU u≤2 ^ 20):kP 242 [eU u, .pptr [aV p] 0 0] (.bool true):=by
  have h':cW p u=true:=h
  exact bo Tryz.func242<|Kp 3 (Ew p u h hn)<|Kf 1<|bq<|dB true
theorem Y0 (l:List TUnit) (g:Nat) (q:TUnit→Bool) (hp : ∀ k,k∈l→kP g [eU k] (.bool (q k))) (hl:l.length<2 ^ 40):kP 241 [.ls (l.map aK), .func (.func g) [] []] (iV (di q l 0)):=by
  have rr0 b' (h:(di q l 0)=b':=by first | exact lL zd0 hr0 hj0 ‹_› | exact hj0):=h;exact bo Tryz.func241<|Kl 2 7 (ln aK l)<|Mg 0<|sl aK l [0,1,7,8] (fun a _=>([aW<|l.map aK,bJ (bW g) [] [],nV l.length,nV a],[])) (fun a=>di q l (0:Nat)=di q a (l.length - a.length)) sA (fun _ _ zd0 _ hr0 a hj0=>Kh 0 a<|Kf 0<|li<|rr0 (-1)) fun a _ zd0 _ b c d hr0 e _ f hj0=>have f:=f.trans<|congrArg some<|aI b;Kt 0 e<|Kx 4 f<|Kp 0 (hp b<|by exact aR zd0 hr0)<|Mb (q b) (fun _=>Kf 1<|li<|rr0<|Int.ofNat a) fun _=>Kl 0 18 (dg a)<|Kf 0<|d<|by exact jS zd0 hr0 hj0 (by omega)
theorem Yf (l:List TUnit) (g:Nat) (p:PId) (q:TUnit→Bool) (hp : ∀ k,k∈l→kP g [eU k, .pptr [aV p] 0 0] (.bool (q k))) (hl:l.length<2 ^ 40):kP 241 [.ls (l.map aK), .func (.func g) [] [.pptr [aV p] 0 0]] (iV (di q l 0)):=by
  have rr0 b' (h:(di q l 0)=b':=by first | exact lL zd0 hr0 hj0 ‹_› | exact hj0):=h;exact bo Tryz.func241<|Kl 2 7 (ln aK l)<|Mg 0<|sl aK l [0,1,7,8] (fun a _=>([aW<|l.map aK,bJ (bW g) [] [AV.pptr [ay [iV p.a,iV p.i,iV p.n]] 0 0],nV l.length,nV a],[])) (fun a=>di q l (0:Nat)=di q a (l.length - a.length)) sA (fun _ _ zd0 _ hr0 a hj0=>Kh 0 a<|Kf 0<|li<|rr0 (-1)) fun a _ zd0 _ b c d hr0 e _ f hj0=>have f:=f.trans<|congrArg some<|aI b;Kt 0 e<|Kx 4 f<|Kp 0 (hp b<|by exact aR zd0 hr0)<|Mb (q b) (fun _=>Kf 1<|li<|rr0<|Int.ofNat a) fun _=>Kl 0 18 (dg a)<|Kf 0<|d<|by exact jS zd0 hr0 hj0 (by omega)
theorem Qr {D a:Nat} {w:TUnit} {r:List TUnit} {u:TUnit} (h:D=Nat.max a (kY (w::r))∧a≤2 ^ 20) (q0:nU w<nU u) (q1:mE w<nU w) (hn:nU u≤2 ^ 20):D=Nat.max (Nat.max a (1+mE w)) (kY r)∧Nat.max a (1+mE w)≤2 ^ 20:=by
  grind [kY]
theorem TL {D a:Nat} (h:D=Nat.max a (kY [])∧a≤2 ^ 20):D=a:=by
  simp_all [Cz]
theorem Gs : ∀ (u:TUnit),nU u≤2 ^ 20→kP 227 [eU u] (nV (mE u)):=by
  refine TUnit.ind fun u ih hn=>?_
  have hkl:=ba u
  have ihk : ∀ k,k∈u.kids→kP 227 [eU k] (nV (mE k)):=fun k hk=>ih k hk (bH (sm (g9 hk)) hn)
  have rr0 b' (h:(Int.ofNat (mE u))=b':=by (rw [KA,TL hj0])):=h;exact bo Tryz.func227<|Kl 5 8 (ln aK u.kids)<|Mg 0<|Nl aK u.kids (0:Nat) [3,7,8,9] (fun a _ b=>([nV b,aW<|u.kids.map aK,nV u.kids.length,nV a],[aZ 8 false 0 [ay [iV u.act,iV u.item,iV u.n,iV u.kind,aw u.label,aW<|u.head.map aQ,aW<|u.words.map aQ,aW<|u.kids.map aK]]])) (fun a b=>kY u.kids=b.max (kY a)∧b≤2 ^ 20) sA (fun _ _ a _ _ _ b hj0=>Kh 0 b<|Kf 1<|li<|rr0<|Int.ofNat a) fun a _ b c d e f g i j _ l _=>have l:=(l).trans<|congrArg some<|aI e;have hj0:=cD (J:=fun a b=>kY u.kids=b.max (kY a)∧b≤2 ^ 20) (a:=b) i d;have d:=g9<|aR c i;have m:=Dg e;Kt 0 j<|Mx l<|Kp 4 (ihk e<|by exact aR c i)<|Kl 0 16 (bB (x:=(1:Int)+Int.ofNat (mE e)) (n:=(1:Nat)+mE e) ef)<|Kl 0 17 (mO (k:=IntKind.i64)<|Vk b<|1+mE e)<|Kl 1 18 (gP a)<|K1 0 (.frz 1 [3,7,8,9]) (et rt ti)<|Mf<|g (b.max<|1+mE e)<|by exact Qr hj0 d m hn
theorem Kq (g:Nat) (q:TUnit→Bool) : ∀ (u:TUnit),(∀ x,x∈be u→kP g [eU x] (.bool (q x)))→u.kids.length<2 ^ 40→(∀ x,x∈be u→x.kids.length<2 ^ 40)→kP 228 [eU u, .func (.func g) [] []] (.bool (vt q u)):=by
  refine TUnit.ind fun u ih hp hl hk=>?_
  have ihk : ∀ k,k∈u.kids→kP 228 [eU k, .func (.func g) [] []] (.bool (vt q k)):=fun k hm=>ih k hm (fun x hx=>hp x (bg hm hx)) (hk k (J3 hm)) (fun x hx=>hk x (bg hm hx))
  have hs:=hp u (dX u)
  have rr0 b' (h:(vt q u)=b':=by first | (rw [xE];simp only [aS,ak,bS, *];done) | (rw [xE,hj0,NY]) | (rw [xE,hj0,Ak];simp only [aS,ak,bS, *];done)):=h;exact bo Tryz.func228<|Kp 3 hs<|Kn 0 (q u) (fun _=>Ky 0<|rr0 false) fun _=>Kl 2 13 (ln aK u.kids)<|K1 0 (.frz 0 [1,12,13,14]) ti<|sl aK u.kids [1,12,13,14] (fun a _=>([bJ (bW g) [] [],aW<|u.kids.map aK,nV u.kids.length,nV a],[])) (fun a=>(q u && (dc u.kids).all q)=(dc a).all q) (by (simp only [aS,ak,bS, *];done)) (fun _ _ _ _ _ a hj0=>Kh 0 a<|Ky 0<|rr0 true) fun a _ b _ c d e f i _ j hj0=>have j:=j.trans<|congrArg some<|aI c;Kt 0 i<|Mx j<|Kp 4 (ihk c<|by exact aR b f)<|Kn 0 (vt q c) (fun _=>Kf 0<|ca<|rr0 false) fun _=>Kl 0 22 (dg a)<|K1 0 (.frz 0 [1,12,13,14]) ti<|Mf<|e<|by simp_all [Ak]
theorem MS (u:TUnit) (n:Nat) (hn:n<2 ^ 40):kD 229 [eU u, .ptr 0 0 0 0] (aa [.row 1 false 0 [nV n]]) (.bool true) (aa [.row 1 false 0 [nV (n+1)]]):=by
  exact fN Tryz.func229 fun a=>Kl 3 5 (gP n)<|K1 1 (.frz 1 [3]) (et rt ti)<|Mf a
theorem Gx : ∀ (u:TUnit),∀ (n:Nat),n+nU u<2 ^ 40→kD 228 [eU u, .func (.func 229) [] [.ptr 0 0 0 0]] (aa [.row 1 false 0 [nV n]]) (.bool true) (aa [.row 1 false 0 [nV (n+nU u)]]):=by
  refine TUnit.ind fun u ih n hn=>?_
  have hq:=iP u
  have hl:=ba u
  exact Rp Tryz.func228<|K1 3 (.frz 1 [1,2,7,8]) (et rt ti)<|Me (MS u n oA)<|Kl 4 13 (ln aK u.kids)<|Mg 0<|Nl aK u.kids (n+1) [1,12,13,14] (fun a _ b=>([bJ (bW 229) [] [bK 0 0 0 0],aW<|u.kids.map aK,nV u.kids.length,nV a],[aZ 1 false 0 [nV b]])) (fun a b=>n+nU u=b+dP a∧b+dP a<2 ^ 40) oA (fun _ _ a _ _ _ b _=>Kh 0 b<|Kf 0<|et (aY<|dB true) (by simp_all [lF]:(aa [AObj.row 1 false 0 [nV a]])=(aa [AObj.row 1 false 0 [nV (n+nU u)]]))) fun a _ b c _ d e f g h _ i _=>have i:=i.trans<|congrArg some<|aI d;have c:=aR c g;have g:b+nU d<2 ^ 40:=(by grind [bc]);Kt 0 h<|Mx i<|K1 4 (.frz 1 [1,12,13,14,18,19]) (et rt ti)<|Me (ih d c b g)<|Kl 2 22 (gP a)<|Kf 0<|f (b+nU d)<|by grind [bc]
theorem Di (u:TUnit) (hn:nU u<2 ^ 39):kP 133 [eU u] (nV (nU u)):=by
  have rr0 b' (h:(Int.ofNat (nU u))=b':=by (rw [f9])):=h;exact bo Tryz.func133<|Mg 5<|M0 (.ren [1,0] [] [3,4,5])<|M1 (.frz 1 [3,4,5]) (et rt ti)<|Me (Gx u 0 oA)<|Kf 1<|li<|rr0<|Int.ofNat<|0+nU u
noncomputable abbrev rV (ep n:Nat):AObj:= .row 1 false 0 [.slice 1 ep 0 n none]
noncomputable abbrev Ll (ep:Nat) (l:List PId):AObj:= .row 3 true ep (l.map aV)
theorem VC (u:TUnit):kD 230 [eU u, .ptr 0 0 0 0] (aa [.row 1 false 0 [.nils]]) (.bool true) (aa [rV 0 1,Ll 0 [bY u]]):=by
  exact YF Tryz.func230 (.go 8<|.ren [0,2,1] [] [3]<|.frz 2 [3] .fin) fun a=>et (bT rt rt ti) a
theorem VD (u:TUnit) (ep n:Nat) (l:List PId) (hn:n=l.length) (hl:l.length<2 ^ 30):kD 230 [eU u, .ptr 0 0 0 0] (aa [rV ep n,Ll ep l]) (.bool true) (aa [rV (ep+1) (n+1),Ll (ep+1) (l++ [bY u])]):=by
  exact fN Tryz.func230 fun a=>K1 5 .app (bT (aY ep) (sA:n=(l.map aV).length) (by (refine aA (m:=2 ^ 31) ?_ ?_ ?_ <;> omega):small (n+1) 24=true))<|M1 (.obj 1<|aZ 3 true (ep+1)<|(l++ [PId.mk u.act u.item u.n]).map aV) (congrArg (aZ 3 true<|ep+1)<|cN (f:=aV) (l:=l) (ws:=[PId.mk u.act u.item u.n]))<|K1 1 (.frz 2 [3]) (bT (tR 3 true (ep+1) 2<|aX Ip<|l++ [PId.mk u.act u.item u.n]) rt ti)<|Mf a
theorem MD : ∀ (u:TUnit),∀ (ep n:Nat) (l:List PId),n=l.length→l.length+nU u<2 ^ 30→kC 228 [eU u, .func (.func 230) [] [.ptr 0 0 0 0]] (aa [rV ep n,Ll ep l])
    (fun v h=>∃ y:Nat × Nat × List PId,(y.2.1=y.2.2.length∧y.2.2=l++dJ u)∧v = .bool true∧h=aa [rV y.1 y.2.1,Ll y.1 y.2.2]):=by
  refine TUnit.ind fun u ih ep n l hn hl=>?_
  have hq:=iP u
  have hkl:=ba u
  exact pB Tryz.func228 fun a=>K1 3 (.frz 2 [1,2,7,8]) (bT (tR 3 true ep 2<|aX Ip l) rt ti)<|Me (VD u ep n l hn oA)<|Kl 4 13 (ln aK u.kids)<|Mg 0<|Uj aK u.kids (ep+1) (n+1) (l++ [bY u]) [1,12,13,14] (fun a _ b c d=>([bJ (bW 230) [] [bK 0 0 0 0],aW<|u.kids.map aK,nV u.kids.length,nV a],[aZ 1 false 0 [aD 1 b 0 c none],aZ 3 true b<|d.map aV])) (fun a _ b c=>b=c.length∧c++iW a=l++ [bY u]++iW u.kids∧c.length+dP a<2 ^ 30) gR (fun _ _ b c d _ _ _ e _=>Kh 0 e<|Kf 0<|a (b,c,d)<|by grind [qD, nZ]) fun a _ b c d e f g i j k m _ o _=>have o:=(o).trans<|congrArg some<|aI g;have :=cD (J:=fun a b=>b.2.1=b.2.2.length∧b.2.2++iW a=l++ [bY u]++iW u.kids∧b.2.2.length+dP a<2 ^ 30) (a:=(b,c,d)) k f;have e:=aR e k;have f:d.length+nU g<2 ^ 30:=(by grind [bc]);Kt 0 m<|Mx o<|K1 4 (.frz 2 [1,12,13,14,18,19]) (bT (tR 3 true b 2<|aX Ip d) rt ti)<|Mq (ih g e b c d oA f) fun b _=>Kl 2 22 (dg a)<|Kf 0<|j b.1 b.2.1 b.2.2<|by grind [bc, fR, tE]
theorem Uc (l:List PWord) (hl:l.length≤300) (hs : ∀ w,w∈l→w.text.length≤2 ^ 39):kP 373 [.ls (l.map aQ)] (.bool (oY l)):=by
  have hv:=Ji (l.map PWord.text) (by grind) (fun s hm=>by grind)
  have rr0 b' (h:(oY l)=b':=by (simp only [oY,aS,ak,bS, *])):=h;exact bo Tryz.func373<|Kl 3 7 (ln aQ l)<|Mg 0<|kQ Nat Nat (List aN) aQ l [0,3,6,7,8] (fun a _=>([aW<|l.map aQ,af,aW<|l.map aQ,nV l.length,nV a],[])) (fun a _ b c d=>([aW<|l.map aQ,aD 0 b 0 c none,aW<|l.map aQ,nV l.length,nV a],[aZ 1 true b<|d.map mD])) (fun a=>a=l) (fun a _ b c=>b=c.length∧(0:Nat)<c.length∧c++List.map PWord.text a=List.map PWord.text l∧c.length+a.length=l.length) (by rfl) (fun _ _ _ _ _ a _=>Kh 0 a<|Kl 1 19 (ln aQ l)<|Kd 1 256 (Int.ofNat l.length) (fun a _=>Kt 0 (cQ a)<|Mp (aP.onArgs (.cons (Le.lsn (sA:((l.map PWord.text).map mD) = [])) .nil) hv:kP 245 [af] _)<|MV (cQ a)<|Kf 0<|ca<|rr0<|pM<|l.map PWord.text) fun a _=>Mh (bO a)<|My (bO a)<|Kf 0<|ca<|rr0 false) (fun a _ _ _ b c _ d _ e _ f g=>Kt 0 e<|Mx f<|Kl 9 17 (gP a)<|Mg 0<|M0 (.ren [1,0] [] [0,3,6,7,8])<|M1 (.frz 1 [0,3,6,7,8]) (et rt ti)<|Mf<|d 0 1 [b.text]<|by (refine ⟨rfl,by simp,?_,?_⟩ <;> (rw [← g]) <;> (first | rfl | grind))) (fun _ _ a b c _ _ _ d _=>Kh 0 d<|Kl 1 19 (ln aQ l)<|Kd 1 256 (Int.ofNat l.length) (fun d _=>Mg 0<|M2 (.fsl 0 [21] 22<|c.map mD) ti (bT (aY a) (tA mD c b (oA:(c).length=b))<|aX Io c)<|Ml 22 (fK (c.map mD) false<|aX Io c)<|Mt (cQ d)<|Mp (aP.onArgs (.cons (cJ (sA:((l.map PWord.text).map mD)=(c.map mD))) .nil) hv:kP 245 [aW (c.map mD)] _)<|MV (cQ d)<|Kf 0<|ca<|rr0<|pM<|l.map PWord.text) fun a _=>Mh (bO a)<|My (bO a)<|Kf 0<|ca<|rr0 false) fun a _ b c d _ _ e f _ g _ i _ j k=>Kt 0 i<|Mx j<|K1 6 .app (bT (aY b) (sA:c=(d.map mD).length) (by (refine aA (m:=2 ^ 20) ?_ ?_ ?_ <;> omega):small (c+1) 16=true))<|M1 (.obj 0<|aZ 1 true (b+1)<|(d++ [e.text]).map mD) (congrArg (aZ 1 true<|b+1)<|cN (f:=mD) (l:=d) (ws:=[e.text]))<|Kl 1 17 (gP a)<|K1 0 (.frz 1 [0,3,6,7,8]) (et (tR 1 true (b+1) 1<|aX Io<|d++ [e.text]) ti)<|Mf<|g (b+1) (c+1) (d++ [e.text])<|by (refine ⟨by simp_all,by simp,?_,?_⟩ <;> first | (rw [← k.2.2.1];simp;done) | grind)
theorem ot (a b:Nat):Int.ofNat (a+b)=Int.ofNat a+Int.ofNat b:=rfl
theorem Rv (u:TUnit) (h1:u.head.length≤300) (h2:u.words.length≤300) (h3:u.kids.length<2 ^ 30) (h4:u.label.length≤2 ^ 39) (h5 : ∀ w,w∈u.head→w.text.length≤2 ^ 39) (h6 : ∀ w,w∈u.words→w.text.length≤2 ^ 39):kP 348 [eU u] (.bool (lg u)):=by
  have hlk : ∀ (m:List ((Int × aN) × Bool)) (a:Int) (s:aN),eD (some (.bool false)) false (bj true 2 [(0,1),(1,2)] (.agg [iV a, .str s]) (b6 pq dK m 0) 0)=some (.bool (Nh mA (a,s) m)):=fun m a s=>Fw J4 m (a,s)
  have hup : ∀ (m:List ((Int × aN) × Bool)) (a:Int) (s:aN),rJ (b6 pq dK m 0) m.length (.agg [iV a, .str s]) (.bool true) (bj true 2 [(0,1),(1,2)] (.agg [iV a, .str s]) (b6 pq dK m 0) 0)=some (b6 pq dK (fk mA (a,s) true m) 0,(fk mA (a,s) true m).length):=fun m a s=>JZ J4 m (a,s)
  have r1:=Uc u.head h1 h5
  have r2:=Uc u.words h2 h6
  have r3:=tc u.label h4
  have rr0 b' (h:(lg u)=b':=by first | (rw [lg,hj0,mg];simp only [DZ,aT,ot,cond_true,cond_false,aS,ak,bS,xI,Bool.false_and,Bool.not_true,AR,Bool.true_and, *];first | done | rfl) | (simp only [lg,DZ,aT,ot,cond_true,cond_false,aS,ak,bS, *];done) | (simp only [lg,mg,DZ,aT,ot,cond_true,cond_false,aS,ak,bS, *];done) | (simp only [lg,mg,DZ,aT,ot,cond_true,cond_false,aS,ak,bS,xI,Bool.false_and,Bool.not_true,AR,Bool.true_and, *];first | done | rfl)):=h;exact bo Tryz.func348<|Kj 4 u.kind 0 (fun _ b=>Kn 3 (dM u.label (ByteArray.mk #[]).data.toList) (fun b=>Mt (cQ b)<|Mt (cQ b)<|Mt (cQ b)<|Mt (cQ b)<|Mt (cQ b)<|Mt (cQ b)<|Mt (cQ b)<|MV (cQ b)<|Ky 1<|rr0 false) fun c=>Kh 0 (bO c)<|Kh 0 (bO c)<|Kl 0 16 (ln aQ u.head)<|Mh (bO c)<|Kh 0 (bO c)<|Kh 0 (bO c)<|Kl 0 19 (ln aQ u.words)<|Mh (bO c)<|Kl 0 20 (Le.wr (x:=Int.ofNat u.head.length+Int.ofNat u.words.length) ef)<|Mh (bO c)<|Kw 0 (bO c)<|Mb (ar 0<|Int.ofNat u.head.length+Int.ofNat u.words.length) (fun b=>have :=au b;Ky 0<|rr0 false) fun c=>have :=aB c;Kl 4 48 (ln aK u.kids)<|Mg 0<|Nl aK u.kids ([]:List ((Int × aN) × Bool)) [1,3,47,48,49] (fun b _ c=>([bK 0 0 0 0,AV.map 1,aW<|u.kids.map aK,nV u.kids.length,nV b],[aZ 8 false 0 [ay [iV u.act,iV u.item,iV u.n,iV u.kind,aw u.label,aW<|u.head.map aQ,aW<|u.words.map aQ,aW<|u.kids.map aK]],AObj.map (b6 pq dK c 0) c.length])) (fun b c=>mg u.kind u.kids []=mg u.kind b c) (by rfl) (fun _ _ _ _ _ _ b hj0=>Kh 0 b<|Kl 2 74 (ln aK u.kids)<|Kf 1<|ca<|rr0<|ak<|ar 64<|Int.ofNat u.kids.length) fun c _ d _ _ e f g _ i _ j hj0=>have j:=j.trans<|congrArg some<|aI e;Kt 0 i<|Mx j<|Kl 11 59 (mO (k:=IntKind.i64) b)<|Kp 1 (yH 0 e.kind)<|Kn 1 (i9 0 e.kind) (fun b=>Mt (cQ b)<|Mt (cQ b)<|MV (cQ b)<|Ky 1<|rr0 false) fun b=>Kh 0 (bO b)<|Kh 0 (bO b)<|M1 (.look<|dB<|Nh mA (e.kind,e.label) d) (hlk d e.kind e.label)<|My (bO b)<|Mb (Nh mA (e.kind,e.label) d) (fun _=>Kf 0<|ca<|rr0 false) fun _=>K1 1 (.upd (b6 pq dK (fk mA (e.kind,e.label) true d) 0) (fk mA (e.kind,e.label) true d).length) (hup d e.kind e.label)<|Kl 0 71 (dg c)<|K1 0 (.frz 2 [1,3,47,48,49]) (bT (tM (fk mA (e.kind,e.label) true d).length 2 (by exact cZ J4 zE _ _:eT (b6 pq dK (fk mA (e.kind,e.label) true d) 0)=0)) rt ti)<|Mf<|g (fk mA (e.kind,e.label) true d)<|by (rw [hj0,mg];simp only [aS,ak,bS, *];done)) fun _ _=>Kp 1 (wz u.kind)<|Kb 1 (dM (cP u.kind) (ByteArray.mk #[]).data.toList) (fun b=>Mt b<|Mt b<|Mt b<|MV b<|Ky 5<|rr0 false) fun b=>Kh 0 b<|Kh 0 b<|Mp r3<|Mh b<|Kw 0 b<|Kn 0 (jP u.label) (fun b=>Mt (cQ b)<|Mt (cQ b)<|Mt (cQ b)<|MV (cQ b)<|Ky 3<|rr0 false) fun b=>Kh 0 (bO b)<|Kh 0 (bO b)<|Mp r1<|Mh (bO b)<|Kw 0 (bO b)<|Kn 0 (oY u.head) (fun b=>Mt (cQ b)<|Mt (cQ b)<|Mt (cQ b)<|MV (cQ b)<|Ky 1<|rr0 false) fun b=>Kh 0 (bO b)<|Kh 0 (bO b)<|Mp r2<|Mh (bO b)<|Kw 0 (bO b)<|Mn (oY u.words) (fun _=>Ky 0<|rr0 false) fun _=>Kl 4 48 (ln aK u.kids)<|Mg 0<|Nl aK u.kids ([]:List ((Int × aN) × Bool)) [1,3,47,48,49] (fun b _ c=>([bK 0 0 0 0,AV.map 1,aW<|u.kids.map aK,nV u.kids.length,nV b],[aZ 8 false 0 [ay [iV u.act,iV u.item,iV u.n,iV u.kind,aw u.label,aW<|u.head.map aQ,aW<|u.words.map aQ,aW<|u.kids.map aK]],AObj.map (b6 pq dK c 0) c.length])) (fun b c=>mg u.kind u.kids []=mg u.kind b c) (by rfl) (fun _ _ _ _ _ _ b hj0=>Kh 0 b<|Kl 2 74 (ln aK u.kids)<|Kf 1<|ca<|rr0<|ak<|ar 64<|Int.ofNat u.kids.length) fun b _ c _ _ d e f _ g _ i hj0=>have i:=i.trans<|congrArg some<|aI d;Kt 0 g<|Mx i<|Kp 13 (yH u.kind d.kind)<|Kn 1 (i9 u.kind d.kind) (fun b=>Mt (cQ b)<|Mt (cQ b)<|MV (cQ b)<|Ky 1<|rr0 false) fun g=>Kh 0 (bO g)<|Kh 0 (bO g)<|M1 (.look<|dB<|Nh mA (d.kind,d.label) c) (hlk c d.kind d.label)<|My (bO g)<|Mb (Nh mA (d.kind,d.label) c) (fun _=>Kf 0<|ca<|rr0 false) fun _=>K1 1 (.upd (b6 pq dK (fk mA (d.kind,d.label) true c) 0) (fk mA (d.kind,d.label) true c).length) (hup c d.kind d.label)<|Kl 0 71 (dg b)<|K1 0 (.frz 2 [1,3,47,48,49]) (bT (tM (fk mA (d.kind,d.label) true c).length 2 (by exact cZ J4 zE _ _:eT (b6 pq dK (fk mA (d.kind,d.label) true c) 0)=0)) rt ti)<|Mf<|f (fk mA (d.kind,d.label) true c)<|by (rw [hj0,mg];simp only [aS,ak,bS, *];done)
theorem Ib (u:TUnit) (hl:nU u<2 ^ 29):kC 228 [eU u, .func (.func 230) [] [.ptr 0 0 0 0]] (aa [.row 1 false 0 [.nils]])
    (fun v h=>∃ y:Nat × Nat × List PId,(y.2.1=y.2.2.length∧y.2.2=dJ u)∧v = .bool true∧h=aa [rV y.1 y.2.1,Ll y.1 y.2.2]):=by
  have hq:=iP u
  have hkl:=ba u
  exact pB Tryz.func228 fun a=>K1 3 (.frz 1 [1,2,7,8]) (et rt ti)<|Me (VC u)<|Kl 4 13 (ln aK u.kids)<|Mg 0<|Uj aK u.kids (0:Nat) (1:Nat) ([bY u]:List PId) [1,12,13,14] (fun a _ b c d=>([bJ (bW 230) [] [bK 0 0 0 0],aW<|u.kids.map aK,nV u.kids.length,nV a],[aZ 1 false 0 [aD 1 b 0 c none],aZ 3 true b<|d.map aV])) (fun a _ b c=>b=c.length∧c++iW a= [bY u]++iW u.kids∧c.length+dP a<2 ^ 30) gR (fun _ _ b c d _ _ _ e f=>Kh 0 e<|Kf 0<|a (b,c,d)<|by (refine ⟨f.1,?_⟩;have:=f.2.1;rw [qD,eX] at this;rw [this,nZ];rfl)) fun a _ b c d e f g i j k l _ m _=>have m:=(m).trans<|congrArg some<|aI g;have :=cD (J:=fun a b=>b.2.1=b.2.2.length∧b.2.2++iW a= [bY u]++iW u.kids∧b.2.2.length+dP a<2 ^ 30) (a:=(b,c,d)) k f;have :=aR e k;have e:d.length+nU g<2 ^ 30:=(by grind [bc]);Kt 0 l<|Mx m<|K1 4 (.frz 2 [1,12,13,14,18,19]) (bT (tR 3 true b 2<|aX Ip d) rt ti)<|Mq (MD g b c d oA e) fun b _=>Kl 2 22 (dg a)<|Kf 0<|j b.1 b.2.1 b.2.2<|by grind [bc, fR, tE]
theorem PG (u:TUnit) (hl:nU u<2 ^ 29):kP 134 [eU u] (.ls ((dJ u).map aV)):=by
  have rr0 b' (h:((dJ u).map aV)=b':=by (rw [hy0.2])):=h;exact bo Tryz.func134<|Mg 4<|M0 (.ren [1,0] [] [3,4,5])<|M1 (.frz 1 [3,4,5]) (et rt ti)<|Mq (Ib u hl) fun a hy0=>Mg 1<|M2 (.fsl 0 [] 2<|a.2.2.map aV) ti (bT (aY a.1) (tA aV a.2.2 a.2.1 (oA:(a.2.2).length=a.2.1))<|aX Ip a.2.2)<|Ml 2 (fK (a.2.2.map aV) false<|aX Ip a.2.2)<|Mf<|cJ<|rr0<|a.2.2.map aV
theorem VB (u:TUnit) (hl:nU u<2 ^ 20):kP 349 [eU u] (.bool (PH u)):=by
  have hb:(dJ u).length<2 ^ 20:=by grind [tE]
  have hi:=PG u (by omega)
  have hlk : ∀ (m:List (PId × Bool)) (a b c:Int),eD (some (.bool false)) false (bj true 3 [(0,1),(1,1),(2,1)] (.agg [iV a,iV b,iV c]) (b6 aV dK m 0) 0)=some (.bool (Nh bb ⟨a,b,c⟩ m)):=fun m a b c=>Fw IW m ⟨a,b,c⟩
  have hup : ∀ (m:List (PId × Bool)) (a b c:Int),rJ (b6 aV dK m 0) m.length (.agg [iV a,iV b,iV c]) (.bool true) (bj true 3 [(0,1),(1,1),(2,1)] (.agg [iV a,iV b,iV c]) (b6 aV dK m 0) 0)=some (b6 aV dK (fk bb ⟨a,b,c⟩ true m) 0,(fk bb ⟨a,b,c⟩ true m).length):=fun m a b c=>JZ IW m ⟨a,b,c⟩
  have rr0 b' (h:(PH u)=b':=by ((try clear gh1);(try clear gh2);(try clear gh3);(try clear gh4);(try clear gh5);(try clear gh6);(try clear gh7);have e:=CY (kenc:=aV) (f:=dK) za0 0;simp only [e,lM] at *;simp only [PH,fP,bb,bY,bG,hj0,Lk,aS,ak,bS, *];first | done | rfl)):=h;exact bo Tryz.func349<|Kp 2 hi<|Kl 4 12 (ln aV<|dJ u)<|Mg 0<|Nl aV (dJ u) ([]:List (PId × Bool)) [1,3,4,11,12,13] (fun d _ g=>([bK 0 0 0 0,aW<|(dJ u).map aV,AV.map 1,aW<|(dJ u).map aV,nV (dJ u).length,nV d],[aZ 8 false 0 [ay [iV u.act,iV u.item,iV u.n,iV u.kind,aw u.label,aW<|u.head.map aQ,aW<|u.words.map aQ,aW<|u.kids.map aK]],AObj.map (b6 aV dK g 0) g.length])) (fun d g=>Bd (dJ u) []=Bd d g) (by rfl) (fun _ _ za0 _ _ _ d hj0=>Kh 0 d<|K1 1 (.look<|dB<|Nh bb (PId.mk 0 0 0) za0) (hlk za0 0 0 0)<|Kb 2 (Nh bb (PId.mk 0 0 0) za0) (fun d=>Kt 0 d<|Kt 0 d<|Ku 0 d<|Kj 0 (Int.ofNat (b6 aV dK za0 0).length) 1 (fun d gh2=>Mt d<|Mt d<|Mt d<|Mt d<|Mt d<|Mt d<|MV d<|Ky 0<|rr0 true) fun d gh2=>Kh 0 d<|Kh 0 d<|Kh 0 d<|Kh 0 d<|Kh 0 d<|Kj 0 (Int.ofNat (b6 aV dK za0 0).length) (Int.ofNat ((dJ u).map aV).length) (fun g gh3=>Kt 0 g<|Kt 0 g<|Kt 0 g<|Kt 0 g<|Kt 0 g<|Kt 0 g<|Mv (kS ((Tryz.prog).underlying 27) u.act u.item u.n 0 0 0 h0)<|Mt g<|Kh 0 d<|MV g<|My d<|Kf 0<|ca<|rr0<|ae u.kind 0==(ae u.act 0 && (ae u.item 0 && ae u.n 0))) fun g gh3=>Mh g<|Mh g<|Mh g<|Mh g<|Mh g<|Mh g<|Mh g<|Mh d<|My g<|My d<|Ky 0<|rr0 false) fun d=>Mh d<|Mh d<|My d<|Kj 6 (Int.ofNat (b6 aV dK za0 0).length) (Int.ofNat ((dJ u).map aV).length) (fun d gh4=>Kt 0 d<|Kt 0 d<|Kt 0 d<|Kt 0 d<|Kt 0 d<|Kt 0 d<|Mv (kS ((Tryz.prog).underlying 27) u.act u.item u.n 0 0 0 h0)<|Mt d<|Ku 0 d<|Kf 1<|ca<|rr0<|ae u.kind 0==(ae u.act 0 && (ae u.item 0 && ae u.n 0))) fun d gh4=>Mh d<|Mh d<|Mh d<|Mh d<|Mh d<|Mh d<|Mh d<|My d<|Ky 1<|rr0 false) fun d _ za0 _ _ g i j _ k _ l hj0=>Kt 0 k<|Mx l<|K1 4 (.upd (b6 aV dK (fk bb (PId.mk g.a g.i g.n) true za0) 0) (fk bb (PId.mk g.a g.i g.n) true za0).length) (hup za0 g.a g.i g.n)<|Kl 0 19 (gP d)<|K1 0 (.frz 2 [1,3,4,11,12,13]) (bT (tM (fk bb (PId.mk g.a g.i g.n) true za0).length 2 (by exact cZ IW zE _ _:eT (b6 aV dK (fk bb (PId.mk g.a g.i g.n) true za0) 0)=0)) rt ti)<|Mf<|j (fk bb (PId.mk g.a g.i g.n) true za0)<|by (rw [hj0];rfl)
/-- What a tree's parts must be, so that the walks can count. -/
def rv (x:TUnit):Prop:=x.head.length≤300∧x.words.length≤300∧x.label.length≤2 ^ 39∧(∀ w,w∈x.head→w.text.length≤2 ^ 39)∧∀ w,w∈x.words→w.text.length≤2 ^ 39
def mV (u:TUnit):Prop:=nU u≤2 ^ 19∧∀ x,x∈be u→rv x
theorem Gj (u:TUnit) (h:mV u):kP 228 [eU u, .func (.func 348) [] []] (.bool (vt lg u)):=
  Kq 348 lg u
    (fun x hx=>by
      obtain ⟨a,b,c,d,e⟩:=h.2 x hx
      have h1:=ba x
      have h2:=dD hx
      have h3:=h.1
      grind [Rv])
    (by have h1:=ba u;have h3:=h.1;omega)
    (fun x hx=>by
      have h1:=ba x
      have h2:=dD hx
      have h3:=h.1
      omega)
theorem xq (u:TUnit) (h:mV u):kP 300 [eU u] (.bool (kj u)):=by
  have h1:=h.1
  have e1:=Gj u h
  have e2:=Gs u (by omega)
  have e3:=Di u (by omega)
  have e4:=VB u (by omega)
  have hd:=Dg u
  have rr0 b' (h:(kj u)=b':=by (simp only [kj,aS,ak,bS, *];done)):=h;exact bo Tryz.func300<|Kp 2 e1<|Kb 0 (vt lg u) (fun a=>Kt 0 a<|Mp e2<|Mt a<|Ku 0 a<|Kn 0 (ar 8<|Int.ofNat<|mE u) (fun a=>Kt 0 (cQ a)<|Mp e3<|Mt (cQ a)<|Ku 0 (cQ a)<|Kn 0 (ar 1024<|Int.ofNat<|nU u) (fun a=>Kt 0 (cQ a)<|Mp e4<|MV (cQ a)<|Kf 0<|ca<|rr0<|PH u) fun a=>Mh (bO a)<|My (bO a)<|Ky 0<|rr0 false) fun a=>Mh (bO a)<|Mh (bO a)<|My (bO a)<|Ky 2<|rr0 false) fun a=>Mh a<|Mh a<|My a<|Ky 4<|rr0 false
theorem qO (l:List PWord) (hl:l.length<2 ^ 30):kP 183 [.ls (l.map aQ)] (.ls (l.map aQ)):=by
  cases l with
  | nil=>exact aP.ls0 (QN.less Le.nils) (QM.lessB (u:= .ls []) (by kernel_rfl))
  | cons w r=>grind [QO]
noncomputable abbrev vG:AObj:= .row 8 false 0 [.agg [iV 0,iV 0,iV 0,iV 0, .str [], .nils, .nils, .nils]]
theorem GC : ∀ (u:TUnit),nU u≤2 ^ 20→(∀ x,x∈be u→x.head.length<2 ^ 30∧x.words.length<2 ^ 30)→kP 87 [eU u] (eU u):=by
  refine TUnit.ind fun u ih hn ht=>?_
  have hkl:=ba u
  have c1:=qO u.head (ht u (dX u)).1
  have c2:=qO u.words (ht u (dX u)).2
  have ihk : ∀ k,k∈u.kids→kP 87 [eU k] (eU k):=fun k hk=>ih k hk (bH (sm (g9 hk)) hn) (fun x hx=>ht x (bg hk hx))
  have rr0 b' (h:(u.kids.map aK)=b':=by first | rfl | (rw [← hj0];rfl) | (rw [← hj0.2.2.1,eX])):=h;let q1:=List.map aQ u.words;let q2:=List.map aQ u.head;exact bo Tryz.func87<|Kp 3 c1<|Kp 1 c2<|Kl 7 16 (ln aK u.kids)<|Mg 0<|kQ Nat Nat (List TUnit) aK u.kids [1,2,3,15,16,17] (fun a _=>([bK 0 0 0 0,bK 1 0 0 0,af,aW<|u.kids.map aK,nV u.kids.length,nV a],[aZ 8 false 0 [ay [iV u.act,iV u.item,iV u.n,iV u.kind,aw u.label,aW<|u.head.map aQ,aW<|u.words.map aQ,aW<|u.kids.map aK]],aZ 8 false 0 [ay [iV 0,iV 0,iV 0,iV 0,aw [],af,af,af]]])) (fun a _ b c d=>([bK 0 0 0 0,bK 1 0 0 0,aD 2 b 0 c none,aW<|u.kids.map aK,nV u.kids.length,nV a],[aZ 8 false 0 [ay [iV u.act,iV u.item,iV u.n,iV u.kind,aw u.label,aW<|u.head.map aQ,aW<|u.words.map aQ,aW<|u.kids.map aK]],aZ 8 false 0 [ay [iV 0,iV 0,iV 0,iV 0,aw [],af,af,af]],aZ 8 true b<|d.map aK])) (fun a=>a=u.kids) (fun a _ b c=>b=c.length∧(0:Nat)<c.length∧c++a=u.kids∧c.length+a.length=u.kids.length) (by rfl) (fun _ _ _ _ _ a hj0=>Kh 0 a<|Kl 0 27 bA<|Kf 3 (aO (lc<|lc<|lc<|lc<|lc<|lc<|lc<|.cons (cJ<|rr0 []) .nil)<|by kernel_rfl:Le _ (AV.agg [iV u.act,iV u.item,iV u.n,iV u.kind,AV.str u.label,AV.ls q2,AV.ls q1,AV.ls []]))) (fun a _ _ b c d _ e f g _ i _=>have i:=(i).trans<|congrArg some<|aI c;have hj0:=cD (J:=fun a _=>a=u.kids) (a:=()) f b;Kt 0 g<|Mx i<|Kp 4 (ihk c gR)<|K1 1 (.obj 3<|aZ 8 true 0<|List.map aK [c]) (congrArg (aZ 8 true 0)<|S0 (f:=aK) (g:=Go.Ev.eU) (ws:=[c]) aI)<|Kl 1 26 (dg a)<|K1 0 (.ren [0,1,3,2] [3] [1,2,3,15,16,17]) (tS 8 true 0<|aX gH [c])<|M1 (.frz 3 [1,2,3,15,16,17]) (j4 (tR 8 true 0 3<|aX gH [c]) rt rt ti)<|Mf<|e 0 1 [c]<|by (refine ⟨rfl,by simp,?_,?_⟩ <;> (rw [← hj0]) <;> (first | rfl | grind))) (fun _ _ a b c _ _ _ d hj0=>let e:=List.map aK c;Kh 0 d<|Mg 0<|M2 (.fsl 2 [1,2] 27 e) (bT rt rt ti) (bT (aY a) (tA aK c b (oA:(c).length=b))<|aX gH c)<|Ml 27 (fK e false<|aX gH c)<|Kf 3 (aO (lc<|lc<|lc<|lc<|lc<|lc<|lc<|.cons (cJ<|rr0 e) .nil)<|by kernel_rfl:Le _ (AV.agg [iV u.act,iV u.item,iV u.n,iV u.kind,AV.str u.label,AV.ls q2,AV.ls q1,AV.ls e]))) fun a _ b c d _ e f g _ i j l _ n _=>have n:=(n).trans<|congrArg some<|aI f;have hj0:=cD (J:=fun a b=>b.2.1=b.2.2.length∧(0:Nat)<b.2.2.length∧b.2.2++a=u.kids∧b.2.2.length+a.length=u.kids.length) (a:=(b,c,d)) j e;Kt 0 l<|Mx n<|Kp 4 (ihk f gR)<|K1 0 .app (bT (aY b) (sA:c=(d.map aK).length) (by (refine aA (m:=2 ^ 21) ?_ ?_ ?_ <;> omega):small (c+1) 120=true))<|M1 (.obj 2<|aZ 8 true (b+1)<|(d++ [f]).map aK) (congrArg (aZ 8 true<|b+1)<|xn (f:=aK) (g:=Go.Ev.eU) (l:=d) (ws:=[f]) aI)<|Kl 1 26 (dg a)<|K1 0 (.frz 3 [1,2,3,15,16,17]) (j4 (tR 8 true (b+1) 3<|aX gH<|d++ [f]) rt rt ti)<|Mf<|i (b+1) (c+1) (d++ [f])<|by (refine ⟨by simp_all,by simp,?_,?_⟩ <;> first | (rw [← hj0.2.2.1];simp;done) | grind)
theorem VR (p:PId) (u:TUnit) (h:By (cW p u) true) (hn:nU u≤2 ^ 20) (ht : ∀ x,x∈be u→x.head.length<2 ^ 30∧x.words.length<2 ^ 30):kP 48 [eU u,aV p] (.tuple [eU (eF p u), .bool true]):=by
  have hw:=Ew p u h hn
  have hlen:=lu (p:=p) u
  have hpos:0<(aC p u).length:=pn.2 (ku h)
  have hm:eF p u∈be u:=JQ u _ (QV h)
  have hf:eF p u=gD (aC p u) ((aC p u).length - 1):=by unfold eF;simp_all
  have hc:=GC (eF p u) (bH (dD hm) hn) (fun x hx=>ht x (by
    grind [iE]))
  rw [hf] at hc ⊢
  have hz:=Qe hpos
  exact bo Tryz.func48<|Kp 5 hw<|Kl 2 11 (ln aK<|aC p u)<|Kh 0 hz<|Kl 2 16 (ln aK<|aC p u)<|Kl 0 17 (BJ (aC p u).length)<|Mx ((aM aK (oA:(aC p u).length - 1<(aC p u).length)).trans<|congrArg some<|aI _)<|Kp 0 hc<|Kf 1<|bq<|cj [ay [iV (gD (aC p u)<|(aC p u).length - 1).act,iV (gD (aC p u)<|(aC p u).length - 1).item,iV (gD (aC p u)<|(aC p u).length - 1).n,iV (gD (aC p u)<|(aC p u).length - 1).kind,aw (gD (aC p u)<|(aC p u).length - 1).label,aW<|List.map aQ (gD (aC p u)<|(aC p u).length - 1).head,aW<|List.map aQ (gD (aC p u)<|(aC p u).length - 1).words,aW<|List.map aK (gD (aC p u)<|(aC p u).length - 1).kids],dB true]
theorem VT (p:PId) (u:TUnit) (h:By (cW p u) false) (hn:nU u≤2 ^ 20):kP 48 [eU u,aV p] (.tuple [eU bw, .bool false]):=by
  have hw:=I9 p u h hn
  exact bo Tryz.func48<|Kp 5 hw<|Kf 7 (cp<|.cons (aO (lc<|lc<|lc<|lc<|lc<|.cons bA<|.cons bA<|.cons bA .nil)<|by kernel_rfl)<|lc .nil:Le _ (cj [ay [iV 0,iV 0,iV 0,iV 0,aw [],af,af,af],dB false]))
theorem QK (p:PId) (u:TUnit) (hn:nU u≤2 ^ 20) (ht : ∀ x,x∈be u→x.head.length<2 ^ 30∧x.words.length<2 ^ 30):kP 48 [eU u,aV p] (.tuple [eU (eF p u), .bool (cW p u)]):=by
  cases h:cW p u with
  | true=>grind [VR]
  | false=>
    have:=VT p u h hn
    rwa [show bw=eF p u by unfold eF;simp_all] at this
theorem YT (l:List PWord) (g:Nat) (q:PWord→Bool) (hp : ∀ k,k∈l→kP g [aQ k] (.bool (q k))) (hl:l.length<2 ^ 40):kP 350 [.ls (l.map aQ), .func (.func g) [] []] (iV (di q l 0)):=by
  have rr0 b' (h:(di q l 0)=b':=by first | exact lL zd0 hr0 hj0 ‹_› | exact hj0):=h;exact bo Tryz.func350<|Kl 2 7 (ln aQ l)<|Mg 0<|sl aQ l [0,1,7,8] (fun a _=>([aW<|l.map aQ,bJ (bW g) [] [],nV l.length,nV a],[])) (fun a=>di q l (0:Nat)=di q a (l.length - a.length)) sA (fun _ _ zd0 _ hr0 a hj0=>Kh 0 a<|Kf 0<|li<|rr0 (-1)) fun a _ zd0 _ b c d hr0 e _ f hj0=>Kt 0 e<|Kx 4 f<|Kp 0 (hp b<|by exact aR zd0 hr0)<|Mb (q b) (fun _=>Kf 1<|li<|rr0<|Int.ofNat a) fun _=>Kl 0 18 (dg a)<|Kf 0<|d<|by exact jS zd0 hr0 hj0 (by omega)
theorem YC (l:List PWord) (g:Nat) (q:PWord→Bool) (hp : ∀ k,k∈l→kP g [aQ k] (.bool (q k))) (hl:l.length<2 ^ 40):kP 303 [.ls (l.map aQ), .func (.func g) [] []] (.bool (l.any q)):=by
  have h:=YT l g q hp hl
  have rr0 b' (h:(l.any q)=b':=by (rw [kN];simp only [aS,ak,bS,rU])):=h;exact bo Tryz.func303<|Kp 2 h<|Kf 1<|ca<|rr0<|ak<|ar (di q l 0) 0
theorem BH (w:PWord):kP 302 [aQ w] (.bool (oD w)):=by
  exact bo Tryz.func302<|Kv 4 (C5 ((Tryz.prog).underlying 62) w.act w.item w.at_ 0 0 0<|aa [aZ 4 false 0 [ay [aw w.text,iV w.act,iV w.item,iV w.at_]]])<|Kf 0<|bq<|dB<|ak<|ae w.act 0 && (ae w.item 0 && ae w.at_ 0)
theorem RQ (u:TUnit) (h1:u.head.length<2 ^ 40) (h2:u.words.length<2 ^ 40):kP 301 [eU u] (.bool (Cf u)):=by
  have c1:=YC u.head 302 oD (fun k _=>BH k) h1
  have c2:=YC u.words 302 oD (fun k _=>BH k) h2
  have rr0 b' (h:(Cf u)=b':=by (simp only [Cf,fP,bb,bY,bG,aS,ak,bS, *];first | done | rfl)):=h;exact bo Tryz.func301<|Kv 5 (kS ((Tryz.prog).underlying 27) u.act u.item u.n 0 0 0<|aa [aZ 8 false 0 [ay [iV u.act,iV u.item,iV u.n,iV u.kind,aw u.label,aW<|u.head.map aQ,aW<|u.words.map aQ,aW<|u.kids.map aK]]])<|Kb 0 (ae u.act 0 && (ae u.item 0 && ae u.n 0)) (fun a=>Kt 0 a<|Kt 0 a<|Kt 0 a<|Mp c1<|Mt a<|Ku 0 a<|Kn 0 (u.head.any oD) (fun a=>Kt 0 (cQ a)<|Kt 0 (cQ a)<|Kt 0 (cQ a)<|Mp c2<|Mt (cQ a)<|Ku 0 (cQ a)<|Kf 0<|ca<|rr0<|ak<|u.words.any oD) fun a=>Mh (bO a)<|Mh (bO a)<|Mh (bO a)<|Mh (bO a)<|My (bO a)<|Ky 0<|rr0 false) fun a=>Mh a<|Mh a<|Mh a<|Mh a<|My a<|Ky 2<|rr0 false
theorem Wj (u:TUnit) (h:mV u):kP 244 [eU u] (.bool (G0 u)):=by
  have e1:=xq u h
  have e2:=Kq 301 Cf u (fun x hx=>by
      obtain ⟨a,b,_⟩:=h.2 x hx
      grind [RQ]) (by have h1:=ba u;have h3:=h.1;omega) (fun x hx=>by
      have h1:=ba x
      have h2:=dD hx
      have h3:=h.1
      omega)
  have rr0 b' (h:(G0 u)=b':=by (simp only [G0,aS,ak,bS, *];first | done | rfl)):=h;exact bo Tryz.func244<|Kp 2 e1<|Kb 0 (kj u) (fun c=>Kt 0 c<|Mp e2<|MV c<|Kf 0<|ca<|rr0<|vt Cf u) fun c=>Mh c<|My c<|Ky 0<|rr0 false
theorem Lo (p:PId) (u:TUnit) (hh:cW p u=false) (hn:nU u≤2 ^ 20):kP 148 [eU u,aV p] (.tuple [aV bG,iV (-1), .bool false]):=by
  have hw:=I9 p u hh hn
  exact bo Tryz.func148<|Kp 6 hw<|Kf 8<|bq<|cj [ay [iV 0,iV 0,iV 0],iV (-1),dB false]
theorem Ln (p:PId) (u:TUnit) (hh:cW p u=true) (hl:ar (Int.ofNat (aC p u).length) 2=true) (hn:nU u≤2 ^ 20):kP 148 [eU u,aV p] (.tuple [aV bG,iV (-1), .bool false]):=by
  have hw:=Ew p u hh hn
  exact bo Tryz.func148<|Kp 6 hw<|Kl 2 14 (ln aK<|aC p u)<|Kt 0 hl<|Kf 3<|bq<|cj [ay [iV 0,iV 0,iV 0],iV (-1),dB false]
theorem OC (p:PId) (u:TUnit) (h:jY p u=false) (hn:nU u≤2 ^ 20):kP 148 [eU u,aV p] (.tuple [aV bG,iV (-1), .bool false]):=by
  grind [Lo, Ln, jY]
theorem OA (p:PId) (u:TUnit) (h:jY p u=true) (hn:nU u≤2 ^ 20):kP 148 [eU u,aV p] (.tuple [aV (tJ p u),iV (pP p u), .bool true]):=by
  have hl:ar (Int.ofNat (aC p u).length) 2=false:=by grind [jY]
  have hl2:2≤(aC p u).length:=by have:=aB hl;grind
  have hh:cW p u=true:=by
    cases e:cW p u with
    | true=>rfl
    | false=>grind [PM]
  have hw:=Ew p u hh hn
  have hlen:=lu (p:=p) u
  have hm:Hc p u∈be u:=JQ u _ (iw (by omega))
  have hkn : ∀ k,k∈(Hc p u).kids→nU k≤2 ^ 20:=fun k hk=>bH (dD (iE hm (J3 hk))) hn
  have hkl:(Hc p u).kids.length<2 ^ 40:=by have:=ba (Hc p u);have:=dD hm;omega
  have hi:=Yf (Hc p u).kids 242 p (cW p) (fun k hk=>by
    grind [cW, Lp, Lr]) hkl
  rw [HH h,HI h]
  generalize hG:Hc p u=y at *
  have hG2:gD (aC p u) ((aC p u).length - 2)=y:=hG
  have rr0 b' (h:((bY y).a)=b':=by (rw [hG2];rfl)):=h;have rr1 b' (h:((bY y).i)=b':=by (rw [hG2];rfl)):=h;have rr2 b' (h:((bY y).n)=b':=by (rw [hG2];rfl)):=h;exact bo Tryz.func148<|Kp 6 hw<|Kl 2 14 (ln aK<|aC p u)<|Kh 0 hl<|Kl 2 19 (ln aK<|aC p u)<|Kl 0 20 (bB (x:=Int.ofNat (aC p u).length - (2:Int)) (n:=(aC p u).length - 2) ef)<|Mx ((aM aK (oA:(aC p u).length - 2<(aC p u).length)).trans<|congrArg some<|aI _)<|Mg 5<|M0 (.ren [2,3,0,1] [] [4,8,24,25])<|M1 (.frz 2 [4,8,24,25]) (bT rt rt ti)<|Mp (aP.onArgs (.cons (cJ (by (rw [hG2];done):(y.kids.map aK)=(List.map aK (gD (aC p u) ((aC p u).length - 2)).kids)))<|lc .nil) hi:kP 241 [aW (List.map aK (gD (aC p u) ((aC p u).length - 2)).kids),bJ (bW 242) [] [AV.pptr [ay [iV p.a,iV p.i,iV p.n]] 0 0]] _)<|Kf 6 (cp<|.cons (aO (.cons (li<|rr0 (gD (aC p u)<|(aC p u).length - 2).act)<|.cons (li<|rr1 (gD (aC p u)<|(aC p u).length - 2).item)<|.cons (li<|rr2 (gD (aC p u)<|(aC p u).length - 2).n) .nil)<|by kernel_rfl)<|lc<|lc .nil:Le _ (cj [ay [iV (gD (aC p u) ((aC p u).length - 2)).act,iV (gD (aC p u) ((aC p u).length - 2)).item,iV (gD (aC p u) ((aC p u).length - 2)).n],iV (di (cW p) y.kids 0),dB true]))
theorem OB (p:PId) (u:TUnit) (hn:nU u≤2 ^ 20):kP 148 [eU u,aV p] (.tuple [aV (tJ p u),iV (pP p u), .bool (jY p u)]):=by
  grind [jY, OA, VZ, OE, OC]
theorem XM (p:PId) (u:TUnit) (h:cW p u=false) (hn:nU u≤2 ^ 20):kP 226 [eU u,aV p] (.ls ((pd p u).map aV)):=by
  have hw:=I9 p u h hn
  have e:pd p u = []:=by unfold pd;rw [za h];rfl
  rw [e]
  let q:= [aZ 8 false 0 [ay [iV u.act,iV u.item,iV u.n,iV u.kind,aw u.label,aW (u.head.map aQ),aW (u.words.map aQ),aW (u.kids.map aK)]],aZ 3 false 0 [ay [iV p.a,iV p.i,iV p.n]]];let q1:= [af,af,iV (IntKind.i64.wrap (0 - 2))];exact bo Tryz.func226<|Kp 5 hw<|Mg 4<|Wc [5,6,7] (q1,q) True 0 ti fun _ _=>Kf 4 bA
theorem XL (p:PId) (u:TUnit) (h:cW p u=true) (hn:nU u≤2 ^ 20):kP 226 [eU u,aV p] (.ls ((pd p u).map aV)):=by
  have hw:=Ew p u h hn
  have hlen:=lu (p:=p) u
  have hpos:0<(aC p u).length:=pn.2 (ku h)
  have hac:=Ch p u
  have rr0 b' (h:((pd p u).map aV)=b':=by first | rfl | (rw [Rj hx0 ‹_›];rfl) | (rw [Rk hx0.2.1 oA ‹_›])):=h;exact bo Tryz.func226<|Kp 5 hw<|Kl 0 6 (fK ((aC p u).map aK) false<|aX gH<|aC p u)<|Kl 1 12 (ln aK<|aC p u)<|Kl 0 13 (Le.wr (x:=Int.ofNat (aC p u).length - 2) ef)<|K1 0 (.frz 0 [5,6,7]) ti<|Rh Int Nat Nat (List PId) (Int.ofNat (aC p u).length - 2) [5,6,7] (fun a=>([af,aW<|(aC p u).map aK,iV a],[])) (fun a b c d=>([aD 0 b 0 c none,aW<|(aC p u).map aK,iV a],[aZ 3 true b<|d.map aV])) (fun a=>a=Int.ofNat (aC p u).length - (2:Int)) (fun a _ b c=>b=c.length∧c=n9 p u (a+(1:Int)).toNat∧((-1):Int)≤a∧a+(2:Int)≤↑(aC p u).length∧c.length≤(aC p u).length) (fun a=>(a+1).toNat) (fun a _ _ _=>(a+1).toNat) (by rfl) (fun a hx0 _ b=>have hx0:=hx0;Kd 1 a 0 (fun _ _=>Kl 2 20 (Aa (x:=a) oA)<|Mx ((aM aK (gR:a.toNat<(aC p u).length)).trans<|congrArg some<|aI _)<|Kl 6 17 (Le.wr (x:=a - 1) ef)<|Kf 0<|b (a - 1) 0 1 [PId.mk (gD (aC p u) a.toNat).act (gD (aC p u) a.toNat).item (gD (aC p u) a.toNat).n] (by exact ⟨rfl,NK hx0 (by omega),by omega,by grind,by grind⟩) oA) fun _ _=>Kf 1 (Le.lsn<|rr0 []:Le _ (af))) fun a b c d hx0 _ e=>have hx0:=hx0;Kd 1 a 0 (fun _ _=>Kl 2 20 (Aa (x:=a) oA)<|Mx ((aM aK (oA:a.toNat<(aC p u).length)).trans<|congrArg some<|aI _)<|K1 2 .app (bT (aY b) (sA:c=(d.map aV).length) (by (refine aA (m:=2 ^ 21) ?_ ?_ ?_ <;> omega):small (c+1) 24=true))<|M1 (.obj 0<|aZ 3 true (b+1)<|(d++ [PId.mk (gD (aC p u) a.toNat).act (gD (aC p u) a.toNat).item (gD (aC p u) a.toNat).n]).map aV) (congrArg (aZ 3 true<|b+1)<|cN (f:=aV) (l:=d) (ws:=[PId.mk (gD (aC p u) a.toNat).act (gD (aC p u) a.toNat).item (gD (aC p u) a.toNat).n]))<|Kl 2 17 (Le.wr (x:=a - 1) ef)<|Kf 0<|e (a - 1) (b+1) (c+1) (d++ [PId.mk (gD (aC p u) a.toNat).act (gD (aC p u) a.toNat).item (gD (aC p u) a.toNat).n]) (by exact ⟨by simp_all,G6 hx0.2.1 hx0.2.2.2.1 (by omega),by omega,by omega,by (have z:=G6 hx0.2.1 hx0.2.2.2.1 (by omega);grind)⟩) oA) fun _ _=>Mg 1<|M2 (.fsl 0 [] 4<|d.map aV) ti (bT (aY b) (tA aV d c (oA:(d).length=c))<|aX Ip d)<|Ml 4 (fK (d.map aV) false<|aX Ip d)<|Mf<|cJ<|rr0<|d.map aV
theorem G5 (p:PId) (u:TUnit) (hn:nU u≤2 ^ 20):kP 226 [eU u,aV p] (.ls ((pd p u).map aV)):=by
  grind [XL, XM]
end Go.Proofs.YtempcdhknnjebaaGreatDoor
