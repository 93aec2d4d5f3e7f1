/- Functions walked: what each of them answers, for the law of prefixes: part 1. Conditions: those that each theorem names. -/
import Derived.Test.YtempcdhknnjebaaGreatDoorCmb
import Derived.Test.YtempcdhknnjebaaGreatDoorLay
import Derived.Test.YtempcdhknnjebaaGreatDoorLay2
namespace Go.Proofs.YtempcdhknnjebaaGreatDoor
open Go Go.Ev
noncomputable abbrev cq:=@Le.bool
noncomputable abbrev aW:=@AV.ls
noncomputable abbrev av:=@AV.agg
noncomputable abbrev ak:=@AV.str
noncomputable abbrev bW:=@AV.func
noncomputable abbrev bX:=@Fn.func
noncomputable abbrev eH:=@Le.ps
noncomputable abbrev kK:=@AV.ps
noncomputable abbrev bv:=@Le.refl
noncomputable abbrev eJ:=@AV.bool
noncomputable abbrev cn:=@Le.tuple
noncomputable abbrev cV:=@AV.tuple
noncomputable abbrev ab:=@AV.nils
noncomputable abbrev aZ:=@AObj.row
noncomputable abbrev eS:=@QF
noncomputable abbrev bJ:=@AV.ptr
noncomputable abbrev aI:=@AV.slice
noncomputable abbrev bu:=@Le.nils
noncomputable abbrev XB:=@ARes.val
noncomputable def po (x:PWord):Bool:=aj (ar 100 (.ofNat x.text.length))
noncomputable def mV (ws:List PWord):Bool:=ws.all po && aj (ar 300 (.ofNat ws.length))
theorem FV (x:Int):kP 213 [iV x] (.bool false):=by
  have rr0 b' (h:(false)=b':=by simp [bZ]):=h;exact wk Tryz.func213 (.go 4 .fin)<|cq<|rr0<|aj<|ae x x
theorem oM (x y:Int):kP 114 [iV x,iV y] (iV (jl x y)):=by
  have rr0 b' (h:(jl x y)=b':=by simp [jl, *]):=h;exact bp Tryz.func114<|Kp 1 (FV x)<|Kp 1 (FV y)<|Kb 7 (ar x y) (fun _=>Kf 0<|li<|rr0 (-1)) fun _=>Kb 2 (ar y x) (fun _=>Kf 0<|li<|rr0 1) fun _=>Kf 0<|li<|rr0 0
theorem Ea (ws:List PWord) (hl:ws.length<2 ^ 60):kP 261 [.ls (ws.map aQ)] (.bool (mV ws)):=by
  have rr0 b' (h:(mV ws)=b':=by simp only [mV,po,aS,aj,bS, *]):=h;exact bp Tryz.func261<|Mg 1<|uW aQ ws [0,3] (fun a _=>([aW<|ws.map aQ,nV a],[])) (fun a=>ws.all po=a.all po) (by rfl) (fun _ _ _ _ _ a _=>Kl 2 6 (ln aQ ws)<|Kh 0 a<|Kl 1 18 (ln aQ ws)<|Kf 1<|cq<|rr0<|aj<|ar 300<|Int.ofNat ws.length) fun a _ _ _ b c d _ e _ f _=>Kl 2 6 (ln aQ ws)<|Kt 0 e<|Kx 1 f<|Ka 3 100 (Int.ofNat<|List.length b.text) (fun _ _=>Ky 0<|rr0 false) fun _ _=>Kl 1 9 (dt a)<|Kf 0<|d<|by simp_all [po]
mutual
noncomputable def kV:TUnit→Bool
  | ⟨_,_,_,_,label,h,w,kids⟩=>aj (ar 30 (.ofNat label.length)) && mV h && mV w && xl kids
noncomputable def xl:List TUnit→Bool
  | []=>true
  | u::r=>kV u && xl r
end
theorem AF : ∀ (l:List TUnit),xl l=l.all kV
  | []=>by rw [xl];rfl
  | u::r=>by rw [xl,AF r];rfl
theorem AG (u:TUnit):kV u=(aj (ar 30 (.ofNat u.label.length)) && mV u.head && mV u.words && u.kids.all kV):=by
  obtain ⟨a,b,c,d,e,f,g,h⟩:=u
  rw [kV,AF];rfl
theorem MS : ∀ (u:TUnit),oC u→kP 185 [eU u] (.bool (kV u)):=by
  refine TUnit.ind fun u ih hf=>?_
  obtain ⟨f1,f2,f3,f4⟩:=kI.1 hf
  have rr0 b' (h:(kV u)=b':=by rw [AG];simp only [aS,aj,bS, *]):=h;exact bp Tryz.func185<|Ka 6 30 (Int.ofNat<|List.length u.label) (fun a _=>Mt a<|Mt a<|Mt a<|MV a<|Ky 3<|rr0 false) fun a _=>Kh 0 a<|Kh 0 a<|Mp (Ea u.head f1)<|Mh a<|Kw 0 a<|Kn 0 (mV u.head) (fun a=>Mt (b7 a)<|Mt (b7 a)<|Mt (b7 a)<|MV (b7 a)<|Ky 1<|rr0 false) fun a=>Kh 0 (bL a)<|Kh 0 (bL a)<|Mp (Ea u.words f2)<|Mh (bL a)<|Kw 0 (bL a)<|Mn (mV u.words) (fun _=>Ky 0<|rr0 false) fun _=>K1 0 (.frz 0 [1,3]) ti<|uW aK u.kids [1,3] (fun a _=>([AV.pptr [av [iV u.act,iV u.item,iV u.n,iV u.kind,ak u.label,aW<|u.head.map aQ,aW<|u.words.map aQ,aW<|u.kids.map aK]] 0 0,nV a],[])) (fun a=>u.kids.all kV=a.all kV) (by rfl) (fun _ _ _ _ _ a _=>Kl 3 23 (ln aK u.kids)<|Kh 0 a<|Ky 0<|rr0 true) fun a _ b _ c d e f g _ i _=>have i:=i.trans<|congrArg some<|aG c;Kl 3 23 (ln aK u.kids)<|Kt 0 g<|Kx 2 i<|Kp 0 (ih c (by exact aN b f)<|by exact f4 _ (aN b f))<|Kn 0 (kV c) (fun _=>Kf 0<|cq<|rr0 false) fun _=>Kl 1 26 (dt a)<|Kf 0<|e sA
mutual
noncomputable def mJ:TUnit→Int→Int→Int
  | ⟨_,_,_,_,_,_,_,kids⟩,deep,most=>match ar 20 deep with | true=>most+1 | false=>mK kids deep most 1
noncomputable def mK:List TUnit→Int→Int→Int→Int
  | [],_,_,n=>n
  | k::r,deep,most,n=>match ar most n with | true=>n | false=>mK r deep most (n+mJ k (deep+1) (most - n))
end
theorem Nr (u:TUnit) (deep most:Int):mJ u deep most=match ar 20 deep with | true=>most+1 | false=>mK u.kids deep most 1:=by
  obtain ⟨a,b,c,d,e,f,g,h⟩:=u;rw [mJ];rfl
mutual
theorem Ew : ∀ (u:TUnit) (deep most:Int),0≤most→1≤mJ u deep most∧mJ u deep most≤most+1
  | ⟨_,_,_,_,_,_,_,kids⟩,deep,most,h=>by
    rw [mJ]
    split
    · omega
    · exact Ey kids deep most 1 (by omega) (by omega)
theorem Ey : ∀ (l:List TUnit) (deep most n:Int),1≤n→n≤most+1→1≤mK l deep most n∧mK l deep most n≤most+1
  | [],_,_,n,h1,h2=>by grind [mK]
  | k::r,deep,most,n,h1,h2=>by
    rw [mK]
    split
    · omega
    · rename_i h
      have:=aF h
      have:=Ew k (deep+1) (most - n) (by omega)
      exact Ey r deep most _ (by omega) (by omega)
end
theorem RK : ∀ (u:TUnit),oC u→∀ (deep most:Int),0≤deep→deep≤21→0≤most→most≤2 ^ 20→kP 184 [eU u,iV deep,iV most] (iV (mJ u deep most)):=by
  refine TUnit.ind fun u ih hf deep most d1 d2 m1 m2=>?_
  obtain ⟨f1,f2,f3,f4⟩:=kI.1 hf
  have rr0 b' (h:(mJ u deep most)=b':=by rw [Nr];simp only [mK,aS,aj,bS, *]):=h;exact bp Tryz.func184<|Ka 3 20 deep (fun _ _=>Kl 1 12 (Le.wr (x:=most+1) eG)<|Kf 0<|li<|rr0<|most+1) fun _ _=>K1 1 (.frz 0 [1,2,3,7,8]) ti<|MF aK u.kids (1:Int) [1,2,3,7,8] (fun a _ b=>([iV deep,iV most,AV.pptr [av [iV u.act,iV u.item,iV u.n,iV u.kind,ak u.label,aW<|u.head.map aQ,aW<|u.words.map aQ,aW<|u.kids.map aK]] 0 0,iV b,nV a],[])) (fun a b=>(1:Int)≤b∧b≤most+(1:Int)∧mK u.kids deep most (1:Int)=mK a deep most b) oA (fun _ _ a _ _ _ b _=>Kl 3 16 (ln aK u.kids)<|Kh 1 b<|Mh b<|Mh b<|My b<|Kf 2<|li<|rr0 a) fun a _ b c _ d e f g i _ j _=>have j:=j.trans<|congrArg some<|aG d;Kl 3 16 (ln aK u.kids)<|Kt 1 i<|Kt 0 i<|Kt 0 i<|Ku 0 i<|Mn (ar most b) (fun i=>have :=aF i;Kx 3 j<|Kl 2 32 (Le.wr (x:=deep+1) eG)<|Kl 2 35 (Le.wr (x:=most - b) eG)<|Mp (ih d (by exact aN c g) (by exact f4 _ (aN c g)) (deep+1) (most - b) oA oA oA oA)<|have :=Ew d (deep+1) (most - b) oA;Kl 0 37 (Le.wr (x:=b+mJ d (deep+1) (most - b)) eG)<|Kl 2 24 (dt a)<|Kf 0<|f (b+mJ d (deep+1) (most - b))<|by (refine ⟨by omega,by omega,?_⟩;first | rfl | grind [mK])) fun a=>have :=au a;Kf 1<|li<|rr0 b
noncomputable def FP (u:TUnit) (most:Int):Bool:=aj (ar most (mJ u 0 most)) && kV u
theorem SB (u:TUnit) (most:Int) (hf:oC u) (m1:0≤most) (m2:most≤2 ^ 20):kP 90 [eU u,iV most] (.bool (FP u most)):=by
  have rr0 b' (h:(FP u most)=b':=by simp only [FP,aS,aj,bS, *]):=h;exact bp Tryz.func90<|Kp 3 (RK u hf 0 most oA oA m1 m2)<|Kn 2 (ar most<|mJ u 0 most) (fun a=>Kt 0 (b7 a)<|Mp (MS u hf)<|MV (b7 a)<|Kf 0<|cq<|rr0<|kV u) fun a=>Mh (bL a)<|My (bL a)<|Ky 0<|rr0 false
noncomputable def we (s:aO):Bool:=aj (ar 100 (.ofNat s.length))
noncomputable def wc (s:PStep):Bool:=aj (ar 100 (.ofNat s.label.length))
noncomputable def xY (x:PItem):Bool:=
  aj (ar 12 (.ofNat x.at_.length)) && aj (ar 12 (.ofNat x.to.length)) && aj (ar 300 (.ofNat x.old.length)) && aj (ar 300 (.ofNat x.new.length)) && aj (ar 100 (.ofNat x.label.length)) && aj (ar 100 (.ofNat x.for_.length))
  && aj (ar 100 (.ofNat x.start.event.length)) && aj (ar 100 (.ofNat x.event.length)) && aj (ar 2 (.ofNat x.by_.length)) && FP x.unit 30
noncomputable def Gz (y:PItem):Bool:=ar 0 (.ofNat y.by_.length) && ar 0 (.ofNat (gD y.by_ 0).by_.length)
mutual
noncomputable def mh:PItem→Bool
  | ⟨k,a,t,w,nn,u,o,n,lb,fo,st,ac,it,dy,ev,by_⟩=>xY ⟨k,a,t,w,nn,u,o,n,lb,fo,st,ac,it,dy,ev,by_⟩ && (o.all we && (n.all we && (a.all wc && (t.all wc && FT by_))))
noncomputable def FT:List PItem→Bool
  | []=>true
  | u::r=>(aj (Gz u) && mh u) && FT r
end
noncomputable def Gi (y:PItem):Bool:=aj (Gz y) && mh y
theorem FR : ∀ (l:List PItem),FT l=l.all Gi
  | []=>by rw [FT];rfl
  | u::r=>by rw [FT,FR r];rfl
theorem DQ (x:PItem):mh x=(xY x && (x.old.all we && (x.new.all we && (x.at_.all wc && (x.to.all wc && x.by_.all Gi))))):=by
  obtain ⟨k,a,t,w,nn,u,o,n,lb,fo,st,ac,it,dy,ev,by_⟩:=x
  rw [mh,FR];rfl
theorem SD : ∀ (x:PItem),mI x→kP 54 [eI x] (.bool (mh x)):=by
  refine PItem.ind fun x ih hf=>?_
  obtain ⟨f1,f2,f3,f4,f5,f6,f7⟩:=qZ.1 hf
  have hu:kP 90 [eU x.unit,iV 30] (.bool (FP x.unit 30)):=SB x.unit 30 f6 (by omega) (by omega)
  have rr0 b' (h:(mh x)=b':=by rw [DQ,xY];simp only [Gi,Gz,we,wc,aS,aj,bS, *]):=h;exact bp Tryz.func54<|Kl 4 10 (ln ax x.at_)<|Ka 1 12 (Int.ofNat x.at_.length) (fun a _=>Mt a<|Mt a<|Mt a<|MV a<|Ky 17<|rr0 false) fun a _=>Kh 0 a<|Kh 0 a<|Kl 0 15 (ln ax x.to)<|Mh a<|Kw 0 a<|Ka 0 12 (Int.ofNat x.to.length) (fun a _=>Mt a<|Mt a<|Mt a<|MV a<|Ky 15<|rr0 false) fun a _=>Kh 0 a<|Kh 0 a<|Kl 0 21 (ln mr x.old)<|Mh a<|Kw 0 a<|Ka 0 300 (Int.ofNat x.old.length) (fun a _=>Mt a<|Mt a<|Mt a<|MV a<|Ky 13<|rr0 false) fun a _=>Kh 0 a<|Kh 0 a<|Kl 0 27 (ln mr x.new)<|Mh a<|Kw 0 a<|Ka 0 300 (Int.ofNat x.new.length) (fun a _=>Mt a<|Mt a<|Mt a<|MV a<|Ky 11<|rr0 false) fun a _=>Kh 0 a<|Kh 0 a<|Kh 0 a<|Kw 0 a<|Ka 0 100 (Int.ofNat<|List.length x.label) (fun a _=>Mt a<|Mt a<|Mt a<|MV a<|Ky 9<|rr0 false) fun a _=>Kh 0 a<|Kh 0 a<|Kh 0 a<|Kw 0 a<|Ka 0 100 (Int.ofNat<|List.length x.for_) (fun a _=>Mt a<|Mt a<|Mt a<|Mt a<|MV a<|Ky 7<|rr0 false) fun a _=>Kh 0 a<|Kh 0 a<|Kh 0 a<|Kh 0 a<|Kw 0 a<|Ka 0 100 (Int.ofNat<|List.length x.start.event) (fun a _=>Mt a<|Mt a<|Mt a<|MV a<|Ky 5<|rr0 false) fun a _=>Kh 0 a<|Kh 0 a<|Kh 0 a<|Kw 0 a<|Ka 0 100 (Int.ofNat<|List.length x.event) (fun a _=>Mt a<|Mt a<|Mt a<|MV a<|Ky 3<|rr0 false) fun a _=>Kh 0 a<|Kh 0 a<|Kl 0 58 (ln LL x.by_)<|Mh a<|Kw 0 a<|Ka 0 2 (Int.ofNat x.by_.length) (fun a _=>Mt a<|Mt a<|Mt a<|MV a<|Ky 1<|rr0 false) fun a _=>Kh 0 a<|Kh 0 a<|Mp hu<|Mh a<|Kw 0 a<|Mn (FP x.unit 30) (fun _=>Ky 0<|rr0 false) fun _=>K1 0 (.frz 0 [1,3]) ti<|uW mr x.old [1,3] (fun a _=>([AV.pptr [av [iV x.kind,aW<|x.at_.map ax,aW<|x.to.map ax,iV x.where_,iV x.nth_,iV x.unit.act,iV x.unit.item,iV x.unit.n,iV x.unit.kind,ak x.unit.label,aW<|x.unit.head.map aQ,aW<|x.unit.words.map aQ,aW<|x.unit.kids.map aK,aW<|x.old.map mr,aW<|x.new.map mr,ak x.label,ak x.for_,iV x.start.kind,iV x.start.day,ak x.start.event,iV x.act,iV x.item,iV x.day,ak x.event,aW<|x.by_.map LL]] 0 0,nV a],[])) (fun a=>x.old.all we=a.all we) (by rfl) (fun _ _ _ _ _ a _=>Kl 3 70 (ln mr x.old)<|Kh 0 a<|Mg 0<|uW mr x.new [1,4] (fun a _=>([AV.pptr [av [iV x.kind,aW<|x.at_.map ax,aW<|x.to.map ax,iV x.where_,iV x.nth_,iV x.unit.act,iV x.unit.item,iV x.unit.n,iV x.unit.kind,ak x.unit.label,aW<|x.unit.head.map aQ,aW<|x.unit.words.map aQ,aW<|x.unit.kids.map aK,aW<|x.old.map mr,aW<|x.new.map mr,ak x.label,ak x.for_,iV x.start.kind,iV x.start.day,ak x.start.event,iV x.act,iV x.item,iV x.day,ak x.event,aW<|x.by_.map LL]] 0 0,nV a],[])) (fun a=>x.new.all we=a.all we) (by rfl) (fun _ _ _ _ _ a _=>Kl 3 84 (ln mr x.new)<|Kh 0 a<|Mg 0<|uW ax x.at_ [1,5] (fun a _=>([AV.pptr [av [iV x.kind,aW<|x.at_.map ax,aW<|x.to.map ax,iV x.where_,iV x.nth_,iV x.unit.act,iV x.unit.item,iV x.unit.n,iV x.unit.kind,ak x.unit.label,aW<|x.unit.head.map aQ,aW<|x.unit.words.map aQ,aW<|x.unit.kids.map aK,aW<|x.old.map mr,aW<|x.new.map mr,ak x.label,ak x.for_,iV x.start.kind,iV x.start.day,ak x.start.event,iV x.act,iV x.item,iV x.day,ak x.event,aW<|x.by_.map LL]] 0 0,nV a],[])) (fun a=>x.at_.all wc=a.all wc) (by rfl) (fun _ _ _ _ _ a _=>Kl 3 98 (ln ax x.at_)<|Kh 0 a<|Mg 0<|uW ax x.to [1,6] (fun a _=>([AV.pptr [av [iV x.kind,aW<|x.at_.map ax,aW<|x.to.map ax,iV x.where_,iV x.nth_,iV x.unit.act,iV x.unit.item,iV x.unit.n,iV x.unit.kind,ak x.unit.label,aW<|x.unit.head.map aQ,aW<|x.unit.words.map aQ,aW<|x.unit.kids.map aK,aW<|x.old.map mr,aW<|x.new.map mr,ak x.label,ak x.for_,iV x.start.kind,iV x.start.day,ak x.start.event,iV x.act,iV x.item,iV x.day,ak x.event,aW<|x.by_.map LL]] 0 0,nV a],[])) (fun a=>x.to.all wc=a.all wc) (by rfl) (fun _ _ _ _ _ a _=>Kl 3 113 (ln ax x.to)<|Kh 0 a<|Mg 0<|uW LL x.by_ [1,7] (fun a _=>([AV.pptr [av [iV x.kind,aW<|x.at_.map ax,aW<|x.to.map ax,iV x.where_,iV x.nth_,iV x.unit.act,iV x.unit.item,iV x.unit.n,iV x.unit.kind,ak x.unit.label,aW<|x.unit.head.map aQ,aW<|x.unit.words.map aQ,aW<|x.unit.kids.map aK,aW<|x.old.map mr,aW<|x.new.map mr,ak x.label,ak x.for_,iV x.start.kind,iV x.start.day,ak x.start.event,iV x.act,iV x.item,iV x.day,ak x.event,aW<|x.by_.map LL]] 0 0,nV a],[])) (fun a=>x.by_.all Gi=a.all Gi) (by rfl) (fun _ _ _ _ _ a _=>Kl 3 128 (ln LL x.by_)<|Kh 0 a<|Ky 0<|rr0 true) fun a _ b _ c d e f g _ i _=>have i:=i.trans<|congrArg some<|dR c;Kl 3 128 (ln LL x.by_)<|Kt 0 g<|Kx 2 i<|Kl 2 138 (ln LL c.by_)<|Ka 1 0 (Int.ofNat c.by_.length) (fun g _=>Kt 0 g<|Kt 0 g<|Kt 0 g<|Mx i<|Mt g<|Kt 0 g<|Kt 0 g<|Mx ((aT LL (sA:0<(c.by_).length)).trans<|congrArg some<|dR _)<|Mt g<|Kt 0 g<|Kt 0 g<|Kl 0 150 (ln LL (gD c.by_ 0).by_)<|Mt g<|Ku 0 g<|Ka 0 0 (Int.ofNat (gD c.by_ 0).by_.length) (fun a _=>Mt a<|Mt a<|Mt a<|Mt a<|Mt a<|Mt a<|MV a<|Ky 1<|rr0 false) fun g _=>Kh 0 g<|Kh 0 g<|Kh 0 g<|Mx i<|Mh g<|Kh 0 g<|Mp (ih c (by exact aN b f)<|by exact f7 _ (aN b f))<|Mh g<|Kw 0 g<|Mn (mh c) (fun _=>Kf 0<|cq<|rr0 false) fun _=>Kl 1 131 (dt a)<|Kf 0<|e<|by simp_all [Gi, Gz]) fun g _=>Mh g<|Mh g<|Mh g<|Mh g<|Mh g<|Mh g<|Mh g<|Mh g<|Mh g<|Mh g<|My g<|Kx 3 i<|Kp 0 (ih c (by exact aN b f)<|by exact f7 _ (aN b f))<|Kn 1 (mh c) (fun _=>Kf 0<|cq<|rr0 false) fun _=>Kl 1 131 (dt a)<|Kf 0<|e<|by simp_all [Gi, Gz]) fun a _ _ _ b c d _ e _ f _=>Kl 3 113 (ln ax x.to)<|Kt 0 e<|Kx 2 f<|Ka 3 100 (Int.ofNat<|List.length b.label) (fun _ _=>Ky 0<|rr0 false) fun _ _=>Kl 1 116 (dt a)<|Kf 0<|d<|by simp_all [wc]) fun a _ _ _ b c d _ e _ f _=>Kl 3 98 (ln ax x.at_)<|Kt 0 e<|Kx 2 f<|Ka 3 100 (Int.ofNat<|List.length b.label) (fun _ _=>Ky 0<|rr0 false) fun _ _=>Kl 1 101 (dt a)<|Kf 0<|d<|by simp_all [wc]) fun a _ _ _ b c d _ e _ f _=>Kl 3 84 (ln mr x.new)<|Kt 0 e<|Kx 2 f<|Ka 2 100 (Int.ofNat<|List.length b) (fun _ _=>Ky 0<|rr0 false) fun _ _=>Kl 1 87 (dt a)<|Kf 0<|d<|by simp_all [we]) fun a _ _ _ b c d _ e _ f _=>Kl 3 70 (ln mr x.old)<|Kt 0 e<|Kx 2 f<|Ka 2 100 (Int.ofNat<|List.length b) (fun _ _=>Ky 0<|rr0 false) fun _ _=>Kl 1 73 (dt a)<|Kf 0<|d<|by simp_all [we]
noncomputable def zP (most n:Int) (a:PAct):Bool:=ar most (n+Int.ofNat a.items.length) || (ar 100 (Int.ofNat a.title.length) || (ar 60 (Int.ofNat a.start.event.length) || aj (a.items.all mh)))
noncomputable def ld (most:Int):List PAct→Int→Option Int
  | [],n=>some n
  | a::r,n=>match zP most n a with | true=>none | false=>ld most r (n+Int.ofNat a.items.length)
noncomputable def uN (g:PGaz):Bool:=ar 8 (Int.ofNat g.acts.length) || ar 60 (Int.ofNat g.prior.length)
noncomputable def tq (most:Int):List PGaz→Int→Bool
  | [],_=>true
  | g::r,n=>match uN g with | true=>false | false=>match ld most g.acts n with | none=>false | some m=>tq most r m
noncomputable def LB (gs:List PGaz) (most:Int):Bool:=match ar 8 (Int.ofNat gs.length) with | true=>false | false=>tq most gs 0
theorem SE (gs:List PGaz) (most:Int) (hf:pQ gs) (m1:0≤most) (m2:most≤2 ^ 20):kP 31 [.ls (gs.map aq),iV most] (.bool (LB gs most)):=by
  obtain ⟨f0,f1⟩:=hf
  have fa : ∀ g,g∈gs→∀ a,a∈g.acts→a.items.length<2 ^ 60:=fun g hg a ha=>((f1 g hg).2 a ha).1
  have fb : ∀ g,g∈gs→g.acts.length<2 ^ 60:=fun g hg=>(f1 g hg).1
  have rr0 b' (h:(LB gs most)=b':=by simp only [LB,tq,uN,ld,zP,aS,aj,bS, *]):=h;exact bp Tryz.func31<|Kl 2 11 (ln aq gs)<|Ka 0 8 (Int.ofNat gs.length) (fun _ _=>Ky 0<|rr0 false) fun _ _=>Mg 1<|MF aq gs (0:Int) [0,1,5,6] (fun b _ c=>([aW<|gs.map aq,iV most,iV c,nV b],[])) (fun b c=>(0:Int)≤c∧c≤most∧tq most gs (0:Int)=tq most b c) (by (refine ⟨by omega,by omega,?_⟩;first | rfl | (simp only [tq,uN,ld,aS,aj,bS, *]))) (fun _ _ _ _ _ _ b _=>Kl 2 15 (ln aq gs)<|Kh 0 b<|Ky 0<|rr0 true) fun b _ c d _ e f i j k _ l m=>Kl 2 15 (ln aq gs)<|Kt 0 k<|Kx 1 l<|Kl 2 24 (ln ay e.acts)<|Ka 1 8 (Int.ofNat e.acts.length) (fun b _=>Mt b<|Mt b<|Mt b<|Mt b<|Mt b<|Mt b<|MV b<|Ky 1<|rr0 false) fun k _=>Kh 0 k<|Kh 0 k<|Mx l<|Mh k<|Kh 0 k<|Kh 0 k<|Kh 0 k<|Kw 0 k<|Mb (ar 60<|Int.ofNat<|List.length e.prior) (fun b=>have :=au b;Ky 0<|rr0 false) fun k=>have :=aF k;Mg 0<|MF ay e.acts c [0,1,5,6,7] (fun c _ d=>([aW<|gs.map aq,iV most,iV d,nV b,nV c],[])) (fun b d=>(0:Int)≤d∧d≤most∧ld most e.acts c=ld most b d) (by (exact ⟨m.1,m.2.1,rfl⟩)) (fun _ _ c _ _ _ d _=>Kx 2 l<|Kl 2 41 (ln ay e.acts)<|Kh 0 d<|Kl 1 18 (dt b)<|Kf 0<|i c<|by (refine ⟨by omega,by omega,?_⟩;first | rfl | (simp only [tq,uN,ld,aS,aj,bS, *]))) fun f _ i k _ m n o p q _ r _=>have :=fa e (aN d j) m<|aN k p;have :=fb e<|aN d j;Kx 2 l<|Kl 2 41 (ln ay e.acts)<|Kt 0 q<|Kx 1 l<|Kx 2 r<|Kl 6 56 (ln LL m.items)<|Kl 0 57 (Le.wr (x:=i+Int.ofNat m.items.length) eG)<|Ka 4 most (i+Int.ofNat m.items.length) (fun b _=>Mt b<|Mt b<|Mt b<|MV b<|Ky 3<|rr0 false) fun l _=>Kh 0 l<|Kh 0 l<|Kh 0 l<|Kw 0 l<|Ka 0 100 (Int.ofNat<|List.length m.title) (fun b _=>Mt b<|Mt b<|Mt b<|Mt b<|MV b<|Ky 1<|rr0 false) fun l _=>Kh 0 l<|Kh 0 l<|Kh 0 l<|Kh 0 l<|Kw 0 l<|Mb (ar 60<|Int.ofNat<|List.length m.start.event) (fun b=>have :=au b;Ky 0<|rr0 false) fun l=>have :=aF l;K1 0 (.frz 0 [0,1,5,6,7,8,9]) ti<|uW LL m.items [0,1,5,6,7,8,9] (fun c _=>([aW<|gs.map aq,iV most,iV<|i+Int.ofNat m.items.length,nV b,nV f,AV.pptr [av [iV m.number,ak m.title,iV m.day,iV m.start.kind,iV m.start.day,ak m.start.event,aW<|m.items.map LL]] 0 0,nV c],[])) (fun b=>m.items.all mh=b.all mh) (by rfl) (fun _ _ _ _ _ b _=>Kl 3 77 (ln LL m.items)<|Kh 0 b<|Kl 1 44 (dt f)<|Kf 0<|o (i+Int.ofNat m.items.length)<|by (refine ⟨by (simp only [oN] at *;omega),by assumption,?_⟩;simp only [ld,zP,aS,aj,bS, *])) fun b _ c _ e f i l n _ o _=>have o:=o.trans<|congrArg some<|dR e;Kl 3 77 (ln LL m.items)<|Kt 0 n<|Kx 2 o<|Kp 0 (SD e<|by first | exact ((f1 _ (aN d j)).2 _ (aN k p)).2 _ (aN c l))<|Kn 0 (mh e) (fun _=>Kf 0<|cq<|rr0 false) fun _=>Kl 1 80 (dt b)<|Kf 0<|i<|by simp only [aS,aj,bS, *] at *
noncomputable def LA (gs:List PGaz) (p:aO):Bool:=LB gs 24 && aj (ar 60 (Int.ofNat p.length))
theorem SC (gs:List PGaz) (p:aO) (hf:pQ gs):kP 10 [.ls (gs.map aq), .str p] (.bool (LA gs p)):=by
  have rr0 b' (h:(LA gs p)=b':=by simp only [LA,aS,aj,bS, *]):=h;exact bp Tryz.func10<|Kp 1 (SE gs 24 hf oA oA)<|Kb 0 (LB gs 24) (fun a=>Kt 0 a<|Kt 0 a<|Ku 0 a<|Kf 0<|cq<|rr0<|aj<|ar 60<|Int.ofNat<|List.length p) fun a=>Mh a<|Mh a<|My a<|Ky 0<|rr0 false
theorem YZ (l:aO) (g:Nat) (p:UInt8→Bool) (hp : ∀ s,s∈l→kP g [.int .u8 (.ofNat s.toNat)] (.bool (p s))) (hl:l.length<2 ^ 40):kP 374 [.ls (l.map m5), .func (.func g) [] []] (iV (da p l 0)):=by
  have rr0 b' (h:(da p l 0)=b':=by first | exact lF zd0 hr0 hj0 ‹_› | exact hj0):=h;exact bp Tryz.func374<|Kl 2 7 (ln m5 l)<|Mg 0<|uW m5 l [0,1,7,8] (fun a _=>([aW<|l.map m5,bW (bX g) [] [],nV<|List.length l,nV a],[])) (fun a=>da p l (0:Nat)=da p a (List.length l - a.length)) sA (fun _ _ zd0 _ hr0 a hj0=>Kh 0 a<|Kf 0<|li<|rr0 (-1)) fun a _ zd0 _ b c d hr0 e _ f hj0=>Kt 0 e<|Kx 4 f<|Kp 0 (hp b<|by exact aN zd0 hr0)<|Mb (p b) (fun _=>Kf 1<|li<|rr0<|Int.ofNat a) fun _=>Kl 0 18 (dt a)<|Kf 0<|d<|by exact jL zd0 hr0 hj0 (by omega)
theorem YU (l:aO) (g:Nat) (p:UInt8→Bool) (hp : ∀ s,s∈l→kP g [.int .u8 (.ofNat s.toNat)] (.bool (p s))) (hl:l.length<2 ^ 40):kP 353 [.ls (l.map m5), .func (.func g) [] []] (.bool (l.any p)):=by
  have h:=YZ l g p hp hl
  have rr0 b' (h:(List.any l p)=b':=by (rw [kG];simp only [aS,aj,bS,rZ])):=h;exact bp Tryz.func353<|Kp 2 h<|Kf 1<|cq<|rr0<|aj<|ar (da p l 0) 0
theorem MT (c:UInt8):kP 352 [.int .u8 (.ofNat c.toNat)] (.bool (aj (O1 33 126 c))):=by
  have rr0 b' (h:(aj (O1 33 126 c))=b':=by (simp only [O1,aS,aj,bS,rZ, *])):=h;exact bp Tryz.func352<|Kb 3 (ar (Int.ofNat c.toNat) 33) (fun a=>Mt a<|MV a<|Ky 0<|rr0 true) fun a=>Kh 0 a<|Kw 0 a<|Kf 0<|cq<|rr0<|ar 126<|Int.ofNat c.toNat
theorem QR (s:aO) (hs:s.length≤2 ^ 39):kP 306 [.str s] (.bool (rJ s)):=by
  have h:=YU s 352 _ (fun c _=>MT c) (by omega)
  have rr0 b' (h:(rJ s)=b':=by first | (simp only [rJ,aS,aj,bS, *];done) | (rw [rJ,PC,List.all_eq_not_any_not];simp only [CP,aS,aj,bS, *] at *)):=h;let q:=List.map m5 s;exact bp Tryz.func306<|Kn 4 (dH s (ByteArray.mk #[]).data.toList) (fun a=>Kt 0 (b7 a)<|Kt 0 (b7 a)<|Ku 0 (b7 a)<|Kn 0 (ar 24<|Int.ofNat<|List.length s) (fun a=>Kt 0 (b7 a)<|Mv (S9 (s:=s) (H:=aa []) (oA:(s).length≤2 ^ 40))<|Mt (b7 a)<|Kt 0 (b7 a)<|Mp (aM.onArgs (.cons (eH q _<|aX TG s)<|lc .nil) h:kP 353 [kK q false,bW (bX 352) [] []] _)<|Mt (b7 a)<|Ku 0 (b7 a)<|Kf 0<|cq<|rr0<|aj<|List.any s fun a=>aj<|O1 33 126 a) fun a=>Mh (bL a)<|Mh (bL a)<|Mh (bL a)<|Mh (bL a)<|My (bL a)<|Ky 0<|rr0 false) fun a=>Mh (bL a)<|Mh (bL a)<|My (bL a)<|Ky 2<|rr0 false
theorem YQ (l:List aO) (g:Nat) (p:aO→Bool) (hp : ∀ s,s∈l→kP g [.str s] (.bool (p s))) (hl:l.length<2 ^ 40):kP 351 [.ls (l.map mr), .func (.func g) [] []] (iV (da p l 0)):=by
  have rr0 b' (h:(da p l 0)=b':=by first | exact lF zd0 hr0 hj0 ‹_› | exact hj0):=h;exact bp Tryz.func351<|Kl 2 7 (ln mr l)<|Mg 0<|uW mr l [0,1,7,8] (fun a _=>([aW<|l.map mr,bW (bX g) [] [],nV l.length,nV a],[])) (fun a=>da p l (0:Nat)=da p a (l.length - a.length)) sA (fun _ _ zd0 _ hr0 a hj0=>Kh 0 a<|Kf 0<|li<|rr0 (-1)) fun a _ zd0 _ b c d hr0 e _ f hj0=>Kt 0 e<|Kx 4 f<|Kp 0 (hp b<|by exact aN zd0 hr0)<|Mb (p b) (fun _=>Kf 1<|li<|rr0<|Int.ofNat a) fun _=>Kl 0 18 (dt a)<|Kf 0<|d<|by exact jL zd0 hr0 hj0 (by omega)
theorem YY (l:List aO) (g:Nat) (p:aO→Bool) (hp : ∀ s,s∈l→kP g [.str s] (.bool (p s))) (hl:l.length<2 ^ 40):kP 304 [.ls (l.map mr), .func (.func g) [] []] (.bool (l.any p)):=by
  have h:=YQ l g p hp hl
  have rr0 b' (h:(l.any p)=b':=by (rw [kG];simp only [aS,aj,bS,rZ])):=h;exact bp Tryz.func304<|Kp 2 h<|Kf 1<|cq<|rr0<|aj<|ar (da p l 0) 0
theorem Kq (s:aO) (hs:s.length≤2 ^ 39):kP 305 [.str s] (.bool (aj (rJ s))):=by
  exact bp Tryz.func305<|Kp 1 (QR s hs)<|Kf 1<|bv<|eJ<|aj<|rJ s
theorem I8 (l:List aO) (hl:l.length<2 ^ 40) (hs : ∀ s,s∈l→s.length≤2 ^ 39):kP 245 [.ls (l.map mr)] (.bool (pB l)):=by
  have h:=YY l 305 _ (fun s m=>Kq s (hs s m)) hl
  have rr0 b' (h:(pB l)=b':=by first | (simp only [pB,aS,aj,bS, *];done) | (rw [pB,List.all_eq_not_any_not];simp only [aS,aj,bS, *])):=h;exact bp Tryz.func245<|Kl 2 4 (ln mr l)<|Kn 1 (ar 256<|Int.ofNat l.length) (fun a=>Kt 0 (b7 a)<|Mp h<|Mt (b7 a)<|Ku 0 (b7 a)<|Kf 0<|cq<|rr0<|aj<|l.any fun a=>aj<|rJ a) fun a=>Mh (bL a)<|Mh (bL a)<|My (bL a)<|Ky 0<|rr0 false
theorem NT (r:Int):kP 308 [.int .i32 r] (.bool (ar r 48 || ar 57 r)):=by
  have rr0 b' (h:(ar r 48 || ar 57 r)=b':=by (simp only [aS,aj,bS, *])):=h;exact bp Tryz.func308<|Kb 3 (ar r 48) (fun a=>Mt a<|MV a<|Ky 0<|rr0 true) fun a=>Kh 0 a<|Kw 0 a<|Kf 0<|cq<|rr0<|ar 57 r
theorem RB (r:Int):kP 247 [.int .i32 r] (.bool (ar r 65 || ar 90 r)):=by
  have rr0 b' (h:(ar r 65 || ar 90 r)=b':=by (simp only [aS,aj,bS, *])):=h;exact bp Tryz.func247<|Kb 3 (ar r 65) (fun a=>Mt a<|MV a<|Ky 0<|rr0 true) fun a=>Kh 0 a<|Kw 0 a<|Kf 0<|cq<|rr0<|ar 90 r
theorem GD (s:PStep):kP 176 [ax s] (.bool (ae s.kind 0 && dH s.label [])):=by
  have rr0 b' (h:(ae s.kind 0 && dH s.label [])=b':=by (simp only [aS,aj,bS, *];first | done | rfl)):=h;exact bp Tryz.func176<|Kb 5 (ae s.kind 0) (fun a=>Kt 0 a<|Kt 0 a<|Ku 0 a<|Kf 0<|cq<|rr0<|dH s.label (ByteArray.mk #[]).data.toList) fun a=>Mh a<|Mh a<|My a<|Ky 0<|rr0 false
theorem uV (n a b:Int):kP 172 [iV n,iV a,iV b] (.bool (aj (ar n a) && aj (ar b n))):=by
  have rr0 b' (h:(aj (ar n a) && aj (ar b n))=b':=by (simp only [aS,aj,bS, *])):=h;exact bp Tryz.func172<|Kn 4 (ar n a) (fun c=>Kt 0 (b7 c)<|Kt 0 (b7 c)<|Ku 0 (b7 c)<|Kf 0<|cq<|rr0<|aj<|ar b n) fun c=>Mh (bL c)<|Mh (bL c)<|My (bL c)<|Ky 0<|rr0 false
theorem O5 (s:aO):kP 307 [.str s, .func (.func 308) [] []] (iV (bif Nat.beq (dS jR s) s.length then -1 else Int.ofNat (dS jR s))):=
  yS ip (Go.Proofs.enters_of Go.Proofs.Tryz.lidxf.f15 (by kernel_rfl) rfl) (Go.Proofs.enters_of Tryz.func308 (by kernel_rfl) rfl)
    (fun s w hp=>Go.Proofs.Any.strings_IndexFunc_grows Go.Proofs.Tryz.lidxf 308 #[] (Go.Proofs.enters_of Tryz.func308 (by kernel_rfl) rfl) _ s w hp) NT (fun _=>rfl) (Gb (lo:=48) (hi:=57) (by omega)) s
theorem O6 (s:aO) (h:By (Nat.beq (dS jR s) s.length) true):kP 307 [.str s, .func (.func 308) [] []] (iV (-1)):=by
  have:=O5 s
  simp_all
theorem Sa (s:aO) (h:By (Nat.beq (dS jR s) s.length) false):kP 307 [.str s, .func (.func 308) [] []] (nV (dS jR s)):=by
  have:=O5 s
  grind
theorem Xs (s:aO):kP 248 [.str s, .func (.func 247) [] []] (.bool (aj (s.all Vk))):=
  tD ip (Go.Proofs.enters_of Go.Proofs.Tryz.lconf.f17 (by kernel_rfl) rfl) (Go.Proofs.enters_of Tryz.func247 (by kernel_rfl) rfl)
    (fun s w hp=>Go.Proofs.Any.strings_ContainsFunc_grows Go.Proofs.Tryz.lconf 247 #[] (Go.Proofs.enters_of Tryz.func247 (by kernel_rfl) rfl) _ s w hp) RB (fun _=>rfl) (Gb (lo:=65) (hi:=90) (by omega)) s
theorem K6 (s:aO) (hs:s.length≤2 ^ 39):kP 246 [.str s] (.tuple [.str (s.take (dS jR s)), .str (s.drop (dS jR s))]):=by
  have hl:=I5 (p:=jR) (s:=s)
  have rr0 b' (h:(s.take (dS jR s))=b':=by (rw [o5 h0];simp)):=h;have rr1 b' (h:(s.drop (dS jR s))=b':=by (rw [o5 h0];simp)):=h;let q:=AHeap.mk 1000000 Tr.nil;exact bp Tryz.func246<|Ks 2 ((dS jR s).beq<|List.length s) (fun h0=>Mp (O6 s h0)<|Kf 6<|cn<|.cons (Le.str<|rr0 s)<|.cons (Le.str<|rr1 []) .nil) fun h0=>Mp (Sa s h0)<|Kv 5 (T9 (s:=s) (n:=dS jR s) (k:=IntKind.i64) (H:=q) oA)<|Kv 1 (T8 (s:=s) (l:=dS jR s) (k:=IntKind.i64) (H:=q) oA)<|Kf 1<|bv<|cV [ak<|s.take<|dS jR s,ak<|s.drop<|dS jR s]
theorem tZ (s:aO) (hs:s.length≤2 ^ 39):kP 167 [.str s] (.bool (jH s)):=by
  have hd:(s.drop (dS jR s)).length≤2 ^ 39:=by grind
  have rr0 b' (h:(jH s)=b':=by first | (simp only [jH,aS,aj,bS,rZ, *];done) | (simp only [jH,aS,aj,bS,rZ, *];rfl) | (unfold jH;simp only [h0,h1,h2];rfl)):=h;exact bp Tryz.func167<|Kp 1 (K6 s hs)<|Kd 9 (Int.ofNat (s.take<|dS jR s).length) 1 (fun h0 _=>Kt 0 (b7 h0)<|Kt 0 (b7 h0)<|Ku 0 (b7 h0)<|Kd 0 4 (Int.ofNat (s.take<|dS jR s).length) (fun h1 _=>Kt 0 (b7 h1)<|M1 (.chr<|gD (s.take<|dS jR s) 0) (yc (gR:0<(s.take (dS jR s)).length))<|Mt (b7 h1)<|Ku 0 (b7 h1)<|Kc 0 (Int.ofNat (gD (s.take<|dS jR s) 0).toNat) 48 (fun h2 _=>Kt 0 (b7 h2)<|Kt 0 (b7 h2)<|Ku 0 (b7 h2)<|Kd 0 3 (Int.ofNat (s.drop<|dS jR s).length) (fun a _=>Kt 0 (b7 a)<|Kt 0 (b7 a)<|Mp (Xs<|s.drop<|dS jR s)<|Mt (b7 a)<|Ku 0 (b7 a)<|Kf 0<|cq<|rr0<|aj<|aj<|(s.drop<|dS jR s).all Vk) fun a _=>Mh (bL a)<|Mh (bL a)<|Mh (bL a)<|My (bL a)<|Ky 0<|rr0 false) fun h2 _=>Mh (bL h2)<|Mh (bL h2)<|My (bL h2)<|Ky 2<|rr0 false) fun h1 _=>Mh (bL h1)<|Mh (bL h1)<|My (bL h1)<|Ky 4<|rr0 false) fun h0 _=>Mh (bL h0)<|Mh (bL h0)<|My (bL h0)<|Ky 6<|rr0 false
theorem uZ (p:List PStep) (hl:p.length<2 ^ 40) (hs : ∀ s,s∈p→s.label.length≤2 ^ 39):kP 81 [.ls (p.map ax)] (.bool (kJ p)):=by
  have rr0 b' (h:(kJ p)=b':=by first | (rw [kJ,hj0,Tk];rfl) | (rw [kJ,Di zd0 hr0 hj0];simp only [mG,sm,‹ae (Int.ofNat zi0) 0=_›,cond_true,cond_false];simp only [CP,aS,aj,bS, *];first | done | rfl)):=h;exact bp Tryz.func81<|Kl 2 6 (ln ax p)<|Mg 0<|uW ax p [0,5,6,7] (fun a _=>([aW<|p.map ax,aW<|p.map ax,nV p.length,nV a],[])) (fun a=>MW p=GC p a) (by (exact MX)) (fun zi0 _ zd0 _ hr0 a hj0=>Kh 0 a<|Kl 1 34 (ln ax p)<|Kf 1<|cq<|rr0<|aj<|ar 9<|Int.ofNat p.length) fun zi0 _ zd0 _ a b c hr0 d _ e hj0=>Kt 0 d<|Kx 0 e<|Kj 6 (Int.ofNat zi0) 0 (fun d _=>Kt 0 d<|Mp (GD a)<|MV d<|Mb (ae a.kind 0 && dH a.label []) (fun _=>Kl 0 32 (dt zi0)<|K1 0 (.frz 0 [0,5,6,7]) ti<|Mf<|c<|by (rw [Di zd0 hr0 hj0];simp only [mG,sm,‹ae (Int.ofNat zi0) 0=_›,cond_true,cond_false];simp only [CP,aS,aj,bS, *];first | done | rfl)) fun _=>Kd 3 0 a.kind (fun a _=>Mt (b7 a)<|Mt (b7 a)<|MV (b7 a)<|Ky 3<|rr0 false) fun d _=>Kh 0 (bL d)<|Kh 0 (bL d)<|Kw 0 (bL d)<|Ka 0 7 a.kind (fun a _=>Mt a<|Mt a<|Mt a<|MV a<|Ky 1<|rr0 false) fun d _=>Kh 0 d<|Kh 0 d<|Mp (tZ a.label<|by exact hs _ (aN zd0 hr0))<|Mh d<|Kw 0 d<|Mn (jH a.label) (fun _=>Kf 0<|cq<|rr0 false) fun _=>Kl 0 32 (dt zi0)<|K1 0 (.frz 0 [0,5,6,7]) ti<|Mf<|c<|by (rw [Di zd0 hr0 hj0];simp only [mG,sm,‹ae (Int.ofNat zi0) 0=_›,cond_true,cond_false];simp only [CP,aS,aj,bS, *];first | done | rfl)) fun d _=>Mh d<|My d<|Kd 4 0 a.kind (fun a _=>Mt (b7 a)<|Mt (b7 a)<|MV (b7 a)<|Ky 3<|rr0 false) fun d _=>Kh 0 (bL d)<|Kh 0 (bL d)<|Kw 0 (bL d)<|Ka 0 7 a.kind (fun a _=>Mt a<|Mt a<|Mt a<|MV a<|Ky 1<|rr0 false) fun d _=>Kh 0 d<|Kh 0 d<|Mp (tZ a.label<|by exact hs _ (aN zd0 hr0))<|Mh d<|Kw 0 d<|Mn (jH a.label) (fun _=>Kf 0<|cq<|rr0 false) fun _=>Kl 0 32 (dt zi0)<|K1 0 (.frz 0 [0,5,6,7]) ti<|Mf<|c<|by (rw [Di zd0 hr0 hj0];simp only [mG,sm,‹ae (Int.ofNat zi0) 0=_›,cond_true,cond_false];simp only [CP,aS,aj,bS, *];first | done | rfl)
theorem Sy (l:List Int) (v:Int) (hl:l.length<2 ^ 40):kP 340 [.ls (l.map bd),iV v] (iV (da (ae v) l 0)):=by
  have rr0 b' (h:(da (ae v) l 0)=b':=by first | exact lF zd0 hr0 hj0 ‹_› | exact hj0):=h;exact bp Tryz.func340<|Kl 2 7 (ln bd l)<|Mg 0<|uW bd l [0,1,7,8] (fun a _=>([aW<|l.map bd,iV v,nV l.length,nV a],[])) (fun a=>da (ae v) l (0:Nat)=da (ae v) a (l.length - a.length)) sA (fun _ _ zd0 _ hr0 a hj0=>Kh 0 a<|Kf 0<|li<|rr0 (-1)) fun a _ zd0 _ b c d hr0 e _ f hj0=>Kt 0 e<|Kx 4 f<|Kj 1 v b (fun _ _=>Kf 1<|li<|rr0<|Int.ofNat a) fun _ _=>Kl 0 18 (dt a)<|Kf 0<|d<|by exact jL zd0 hr0 hj0 (by omega)
theorem qB (l:List Int) (v:Int) (hl:l.length<2 ^ 40):kP 294 [.ls (l.map bd),iV v] (.bool (l.any (ae v))):=by
  have h:=Sy l v hl
  have rr0 b' (h:(l.any (ae v))=b':=by (rw [kG];simp only [aS,aj,bS,rZ])):=h;exact bp Tryz.func294<|Kp 2 h<|Kf 1<|cq<|rr0<|aj<|ar (da (ae v) l 0) 0
theorem O4 (v:Int):kP 340 [.nils,iV v] (iV (-1)):=by
  let q:= [ab,iV v,iV 0,iV 0];exact bp Tryz.func340<|Mg 3<|W6 [0,1,7,8] (q,[]) True 0 ti fun _ _=>Kf 2<|bv<|iV (-1)
theorem Gv (v:Int):kP 294 [.nils,iV v] (.bool false):=by
  have h:=O4 v
  exact bp Tryz.func294<|Kp 2 h<|Kf 1<|bv<|eJ false
theorem X5:kP 369 [iV 0] (.str (cM 0)):=by
  exact wk Tryz.func369 (.go 11 .fin)<|bv<|ak [98,111,111,107]
theorem X4:kP 369 [iV 1] (.str (cM 1)):=by
  exact wk Tryz.func369 (.go 11 .fin)<|bv<|ak [112,97,114,116]
theorem X3:kP 369 [iV 2] (.str (cM 2)):=by
  exact wk Tryz.func369 (.go 11 .fin)<|bv<|ak [115,101,99,116,105,111,110]
theorem X1:kP 369 [iV 3] (.str (cM 3)):=by
  exact wk Tryz.func369 (.go 11 .fin)<|bv<|ak [112,97,114,97,103,114,97,112,104]
theorem X0:kP 369 [iV 4] (.str (cM 4)):=by
  exact wk Tryz.func369 (.go 11 .fin)<|bv<|ak [116,97,98,108,101]
theorem XT:kP 369 [iV 5] (.str (cM 5)):=by
  exact wk Tryz.func369 (.go 11 .fin)<|bv<|ak [114,111,119]
theorem XS:kP 369 [iV 6] (.str (cM 6)):=by
  exact wk Tryz.func369 (.go 11 .fin)<|bv<|ak [99,101,108,108]
theorem XR:kP 369 [iV 7] (.str (cM 7)):=by
  exact wk Tryz.func369 (.go 11 .fin)<|bv<|ak [110,111,116,101]
theorem XP (k:Int) (h:k<0∨7<k):kP 369 [iV k] (.str (cM k)):=by
  rw [HA h]
  have c:ar k 0=true∨(ar k 0=false∧ar k 8=false):=by
    grind [mb, lg]
  rcases c with c | ⟨c,d⟩
  · exact bp Tryz.func369<|Kt 3 c<|Mt c<|MV c<|Kf 1<|bv<|ak []
  · exact bp Tryz.func369<|Kh 3 c<|Kh 0 c<|Kw 0 c<|Mt (b7 d)<|Kf 0<|bv<|ak []
theorem vG (k:Int):kP 369 [iV k] (.str (cM k)):=by
  by_cases h:k<0∨7<k
  · grind [XP]
  · grind [X5, X4, X3, X1, X0, XT, XS, XR]
theorem Yq (p k:Int) (h:p<0∨7<p):kP 223 [iV p,iV k] (.bool (iO p k)):=by
  unfold iO
  rw [G5 h]
  have c:ar p 0=true∨(ar p 0=false∧ar p 8=false):=by
    grind [mb, lg]
  rcases c with c | ⟨c,d⟩
  · exact bp Tryz.func223<|Kh 3 (bL c)<|Mh (bL c)<|My (bL c)<|Kf 2<|bv<|eJ false
  · exact bp Tryz.func223<|Kt 3 (b7 c)<|Kt 0 (b7 c)<|Ku 0 (b7 c)<|Kh 0 d<|Mh d<|Mh d<|Mh d<|Mh d<|My d<|Kf 0<|bv<|eJ false
theorem Ya (k:Int):kP 223 [iV 0,iV k] (.bool (iO 0 k)):=by
  have h:=qB [1,2] k (by grind)
  let q:= [iV 1,iV 2];exact bp Tryz.func223<|Kp 11 (aM.onArgs (.cons (eH q _<|by rfl)<|lc .nil) h:kP 294 [kK q false,iV k] _)<|Kf 1<|bv<|eJ<|[1,2].any<|ae k
theorem Yy (k:Int):kP 223 [iV 1,iV k] (.bool (iO 1 k)):=by
  have h:=qB [2] k (by grind)
  let q:= [iV 2];exact bp Tryz.func223<|Kp 11 (aM.onArgs (.cons (eH q _<|by rfl)<|lc .nil) h:kP 294 [kK q false,iV k] _)<|Kf 1<|bv<|eJ<|[2].any<|ae k
theorem Yv (k:Int):kP 223 [iV 2,iV k] (.bool (iO 2 k)):=by
  have h:=qB [3,4,7] k (by grind)
  let q:= [iV 3,iV 4,iV 7];exact bp Tryz.func223<|Kp 11 (aM.onArgs (.cons (eH q _<|by rfl)<|lc .nil) h:kP 294 [kK q false,iV k] _)<|Kf 1<|bv<|eJ<|[3,4,7].any<|ae k
theorem Yw (k:Int):kP 223 [iV 3,iV k] (.bool (iO 3 k)):=by
  have h:=qB [3,4,7] k (by grind)
  let q:= [iV 3,iV 4,iV 7];exact bp Tryz.func223<|Kp 11 (aM.onArgs (.cons (eH q _<|by rfl)<|lc .nil) h:kP 294 [kK q false,iV k] _)<|Kf 1<|bv<|eJ<|[3,4,7].any<|ae k
theorem Yk (k:Int):kP 223 [iV 4,iV k] (.bool (iO 4 k)):=by
  have h:=qB [5] k (by grind)
  let q:= [iV 5];exact bp Tryz.func223<|Kp 11 (aM.onArgs (.cons (eH q _<|by rfl)<|lc .nil) h:kP 294 [kK q false,iV k] _)<|Kf 1<|bv<|eJ<|[5].any<|ae k
theorem Yj (k:Int):kP 223 [iV 5,iV k] (.bool (iO 5 k)):=by
  have h:=qB [6] k (by grind)
  let q:= [iV 6];exact bp Tryz.func223<|Kp 11 (aM.onArgs (.cons (eH q _<|by rfl)<|lc .nil) h:kP 294 [kK q false,iV k] _)<|Kf 1<|bv<|eJ<|[6].any<|ae k
theorem Yx (k:Int):kP 223 [iV 6,iV k] (.bool (iO 6 k)):=by
  have h:=Gv k
  exact bp Tryz.func223<|Kp 11 h<|Kf 1<|bv<|eJ false
theorem Yz (k:Int):kP 223 [iV 7,iV k] (.bool (iO 7 k)):=by
  have h:=Gv k
  exact bp Tryz.func223<|Kp 11 h<|Kf 1<|bv<|eJ false
theorem yh (p k:Int):kP 223 [iV p,iV k] (.bool (iO p k)):=by
  by_cases h:p<0∨7<p
  · grind [Yq]
  · grind [Ya, Yy, Yv, Yw, Yk, Yj, Yx, Yz]
theorem ap {n b m:Nat} (h1:n≤m) (h2:m≤2 ^ 40) (h3:m * b≤2 ^ 40):small n b=true:=by
  unfold small
  have h4:n * b≤m * b:=eW b h1
  grind [Nat.ble_eq_true_of_le]
noncomputable abbrev vc (u:TUnit):AObj:= .row 8 false 0 [eU u]
def G0 (p:PId) (u:TUnit) (x0:Nat × List TUnit × Unit):Prop:=(u.kids).drop x0.1=x0.2.1∧cY p u.kids=cY p x0.2.1
noncomputable def xn (p:PId) (u:TUnit) (x0:Nat × List TUnit × Unit):List AV × List AObj:=([AV.ptr 0 0 0 0,AV.ptr 1 0 0 0,AV.ls (u.kids.map aK),nV u.kids.length,nV x0.1], [AObj.row 8 false 0 [AV.agg [iV u.act,iV u.item,iV u.n,iV u.kind,AV.str u.label,AV.ls (u.head.map aQ),AV.ls (u.words.map aQ),AV.ls (u.kids.map aK)]],AObj.row 3 false 0 [AV.agg [iV p.a,iV p.i,iV p.n]]])
theorem D7 (p:PId) : ∀ (u:TUnit),nU u≤2 ^ 20→(cZ p u=false→kP 86 [eU u,aV p] .nils)∧(cZ p u=true→kP 86 [eU u,aV p] (.ps ((aA p u).map aK) false)):=by
  refine TUnit.ind fun u ih hn=>?_
  have ihn : ∀ k,k∈u.kids→By (cZ p k) false→kP 86 [eU k,aV p] .nils:=fun k hk h=>(ih k hk (bG (sj (gN hk)) hn)).1 h
  have ihy : ∀ k,k∈u.kids→By (cZ p k) true→kP 86 [eU k,aV p] (.ps ((aA p k).map aK) false):=fun k hk h=>(ih k hk (bG (sj (gN hk)) hn)).2 h
  have hkl:=bj u
  refine ⟨fun hs=>?_,fun hs=>?_⟩
  · let q:= [av [iV u.act,iV u.item,iV u.n,iV u.kind,ak u.label,aW (u.head.map aQ),aW (u.words.map aQ),aW (u.kids.map aK)]];let q3:= [iV p.a,iV p.i,iV p.n];exact bp Tryz.func86<|Kv 5 (kL ((Tryz.prog).underlying 27) u.act u.item u.n p.a p.i p.n<|aa [aZ 8 false 0 q,aZ 3 false 0 [av q3]])<|Mb (ae u.act p.a && (ae u.item p.i && ae u.n p.n)) (fun _=>Kf 2<|eS (by exact absurd (hs.symm.trans (C5 ‹_›)) (by grind):(AV.nils)=(AV.ps q true))) fun _=>Kl 2 16 (ln aK u.kids)<|Mg 0<|TR (0:Nat) u.kids () [2,3,15,16,17] (fun a _ _=>([bJ 0 0 0 0,bJ 1 0 0 0,aW<|u.kids.map aK,nV u.kids.length,nV a],[aZ 8 false 0 [av [iV u.act,iV u.item,iV u.n,iV u.kind,ak u.label,aW<|u.head.map aQ,aW<|u.words.map aQ,aW<|u.kids.map aK]],aZ 3 false 0 [av [iV p.a,iV p.i,iV p.n]]])) (fun a b _=>(u.kids).drop a=b∧cY p u.kids=cY p b) (fun _ a _=>a.length) (et rfl<|by rfl) fun a b c d e=>Mc b (fun a=>have b:=gy d.1 a;have :=jV (J:=fun a _=>cY p u.kids=cY p a) (a:=c) a d.2;Kh 0 b<|Kf 0<|bv ab) fun b f g=>let i:=List.map aK<|[u]++aA p b;have j:=gc d.1 g;have :=au j;have l:=(gv (enc:=aK) d.1 g).trans<|congrArg some<|aG b;have c:=cG (J:=fun a _=>cY p u.kids=cY p a) (a:=c) g d.2;have :nU b<nU u:=gN<|aN d.1 g;have :(aA p b).length≤nU b:=ll b;Kt 0 j<|Mx l<|Ks 4 (cZ p b) (fun a=>Mp (ihy b (by exact aN d.1 g) a)<|Mg 6<|M2 .apl (et (by simp_all [ko]:List.map aK (aA p b)≠ [])<|gY (sz:=8) (f:=aK) (fun _=>by (rw [aG];rfl))<|aA p b) (et (by (refine ap (m:=2 ^ 21) ?_ ?_ ?_ <;> (try simp only [lM,lC,lN]) <;> (have:=ll (p:=p) b;omega)):small (([AV.agg [iV u.act,iV u.item,iV u.n,iV u.kind,AV.str u.label,AV.ls (u.head.map aQ),AV.ls (u.words.map aQ),AV.ls (u.kids.map aK)]]).length+((aA p b).map aK).length) 120=true) rt)<|M1 (.obj 3<|aZ 8 true 0 i) (congrArg (aZ 8 true 0) (by (simp only [pw,ej,xb,aG,dR] <;> rfl):[AV.agg [iV u.act,iV u.item,iV u.n,iV u.kind,AV.str u.label,AV.ls (u.head.map aQ),AV.ls (u.words.map aQ),AV.ls (u.kids.map aK)]]++List.map aK (aA p b)=List.map aK ([u]++aA p b)))<|Mg 0<|M2 (.fsl 0 [] 4 i) ti (cW (aU 0) (tA aK ([u]++aA p b) (q++List.map aK (aA p b)).length (sA:([u]++aA p b).length=([AV.agg [iV u.act,iV u.item,iV u.n,iV u.kind,AV.str u.label,AV.ls (u.head.map aQ),AV.ls (u.words.map aQ),AV.ls (u.kids.map aK)]]++List.map aK (aA p b)).length))<|aX gC<|[u]++aA p b)<|Ml 4 (eH i false<|aX gC<|[u]++aA p b)<|Mf<|eS (by exact absurd (hs.symm.trans (Sg (by assumption) c (by omega))) (by grind):(AV.nils)=(AV.ls i))) fun c=>Mp (ihn b (by exact aN d.1 g) c)<|Kl 4 30 (dt a)<|K1 0 (.frz 2 [2,3,15,16,17]) (cW rt rt ti)<|Mf<|e (a+1) f () (et (bP d.1 g)<|by grind [ic])<|fu g
  · have rr0 : ∀ b',(h:((aA p u).map aK)=b':=by first | rfl | exact absurd (hs.symm.trans (Fe (by assumption) hj0)) (by decide) | (rw [sd (by assumption),ej,aG];rfl) | (rw [Ir (by assumption) hj0 (by assumption)];rfl))→((aA p u).map aK)=b':=(fun _ h=>h);let q:= [av [iV u.act,iV u.item,iV u.n,iV u.kind,ak u.label,aW (u.head.map aQ),aW (u.words.map aQ),aW (u.kids.map aK)]];let q3:= [iV p.a,iV p.i,iV p.n];exact bp (hv:=(aX gC (aA p u))) Tryz.func86 (Kv 5 (Dh (d:=(Tryz.prog).underlying 27) (n:=3) (l:=(0,1)::(1,1)::(2,1):: []) (xs:= [iV u.act,iV u.item,iV u.n]) (ys:=q3) (H:=aa [aZ 8 false 0 q,aZ 3 false 0 [av q3]]) rfl (ml (e:=ae u.act p.a) rfl rfl rfl (ml (e:=ae u.item p.i) rfl rfl rfl (zj (e:=ae u.n p.n) rfl rfl rfl rfl)))) (Mb (ae u.act p.a && (ae u.item p.i && ae u.n p.n)) (fun h0=>Kf 2 ((QE (rr0 q)):Le _ (kK q true))) (fun h0=>Kl 2 16 (Le.len (f:=aK) (l:=u.kids)) (Mg 0 (ML (Nat × List TUnit × Unit) [2,3,15,16,17] (xn p u) (G0 p u) (fun x=>x.2.1.length) (0,u.kids,()) (aU ((xn p u) (0,u.kids,()))) (et (rfl:List.drop 0 (u.kids)=u.kids) (by rfl:(cY p u.kids=cY p u.kids))) (fun x0 hx0 nx0=>Mc x0.2.1 (fun hr0=>have lt0:=gy hx0.1 hr0;have hj0:=jV (J:=fun r x=>cY p u.kids=cY p r) (a:=x0.2.2) hr0 hx0.2;(Kh 0 lt0 (Kf 0 (eS (by exact absurd (hs.symm.trans (Fe (by assumption) hj0)) (by grind):(AV.ps ((aA p u).map aK) false)=(AV.nils)))))) (fun w0 r0 hr0=>let q2:=List.map aK ([u]++aA p w0);have lt0:=gc hx0.1 hr0;have glt0:=au lt0;have nt0:=(gv (enc:=aK) hx0.1 hr0).trans (congrArg some (aG w0));have hj0:=cG (J:=fun r x=>cY p u.kids=cY p r) (a:=x0.2.2) hr0 hx0.2;have q0:nU w0<nU u:=gN (aN hx0.1 hr0);have q1:(aA p w0).length≤nU w0:=ll w0;(Kt 0 lt0 (Mx nt0 (Ks 4 (cZ p w0) (fun h2=>Mp (ihy w0 (by exact aN hx0.1 hr0) h2) (Mg 6 (M2 .apl (et (by simp_all [ko]:List.map aK (aA p w0)≠ []) (gY (sz:=8) (f:=aK) (fun _=>by (rw [aG];rfl)) (aA p w0))) (et (by (refine ap (m:=2 ^ 21) ?_ ?_ ?_ <;> (try simp only [lM,lC,lN]) <;> (have:=ll (p:=p) w0;omega)):small (([AV.agg [iV u.act,iV u.item,iV u.n,iV u.kind,AV.str u.label,AV.ls (u.head.map aQ),AV.ls (u.words.map aQ),AV.ls (u.kids.map aK)]]).length+((aA p w0).map aK).length) 120=true) rt) (M1 (.obj 3 (aZ 8 true 0 q2)) (congrArg (aZ 8 true 0) (by (simp only [pw,ej,xb,aG,dR] <;> rfl) : [AV.agg [iV u.act,iV u.item,iV u.n,iV u.kind,AV.str u.label,AV.ls (u.head.map aQ),AV.ls (u.words.map aQ),AV.ls (u.kids.map aK)]]++List.map aK (aA p w0)=List.map aK ([u]++aA p w0))) (Mg 0 (M2 (.fsl 0 [] 4 q2) ti (cW (aU (0)) (IF (f:=aK) (l:= [u]++aA p w0) (n:=(q++List.map aK (aA p w0)).length) (by simp_all:([u]++aA p w0).length=([AV.agg [iV u.act,iV u.item,iV u.n,iV u.kind,AV.str u.label,AV.ls (u.head.map aQ),AV.ls (u.words.map aQ),AV.ls (u.kids.map aK)]]++List.map aK (aA p w0)).length)) (aX gC ([u]++aA p w0))) (Mf ((QE (rr0 q2)):Le _ (kK q2 false))))))))) (fun h2=>Mp (ihn w0 (by exact aN hx0.1 hr0) h2) (Kl 4 30 (Le.wr (x:=Int.ofNat x0.1+1) eG) (K1 0 (.frz 2 [2,3,15,16,17]) (cW rt rt ti) (Mf (nx0 (x0.1+1,r0,()) (et (bP hx0.1 hr0) (by grind [ic]:(cY p u.kids=cY p r0))) (fu hr0))))))))))))))))
theorem Is (p:PId) (u:TUnit) (h:By (cZ p u) false) (hn:nU u≤2 ^ 20):kP 86 [eU u,aV p] .nils:=(D7 p u hn).1 h
theorem D6 (p:PId) (u:TUnit) (h:By (cZ p u) true) (hn:nU u≤2 ^ 20):kP 86 [eU u,aV p] (.ps ((aA p u).map aK) false):=(D7 p u hn).2 h
theorem QQ:kP 183 [.nils] .nils:=by
  exact wk Tryz.func183 (.go 4 .fin)<|bv ab
theorem P9:kP 183 [.ps [] false] (.ps [] true):=by
  exact wk Tryz.func183 (.go 7 .fin)<|bv<|kK [] true
theorem QZ (w:PWord) (r:List PWord) (hl:r.length<2 ^ 30):kP 183 [.ls ((w::r).map aQ)] (.ls ((w::r).map aQ)):=by
  let q:=List.map aQ (w::r);exact bp Tryz.func183<|Mg 1<|Mz 3 (fun (a:((w::r).map aQ:List AV) = [])=>Mw .abs<|o3 _ _ a)<|Mg 3<|M2 .apl (et (sA:List.map aQ (w::r)≠ [])<|fM 4 aQ (w::r) fun _=>rfl) (by (refine ap (m:=2 ^ 31) ?_ ?_ ?_ <;> first | omega | grind):small ((w::r).map aQ).length 40=true)<|Mg 0<|M2 (.fsl 0 [] 2 q) ti (cW (aU 0) (tA aQ (w::r) q.length (sA:(w::r).length=((w::r).map aQ).length))<|aX iq<|w::r)<|Ml 2 (eH q false<|aX iq<|w::r)<|Mf<|bv<|aW q
theorem LQ (p:PId) (u:TUnit) (h:By (cZ p u) false) (hn:nU u≤2 ^ 20):kP 242 [eU u, .pptr [aV p] 0 0] (.bool false):=by
  have h':cZ p u=false:=h
  exact bp Tryz.func242<|Kp 3 (Is p u h hn)<|Kf 1<|bv<|eJ false
theorem K9 (p:PId) (u:TUnit) (h:By (cZ p u) true) (hn:nU u≤2 ^ 20):kP 242 [eU u, .pptr [aV p] 0 0] (.bool true):=by
  have h':cZ p u=true:=h
  exact bp Tryz.func242<|Kp 3 (D6 p u h hn)<|Kf 1<|bv<|eJ true
theorem X8 (l:List TUnit) (g:Nat) (q:TUnit→Bool) (hp : ∀ k,k∈l→kP g [eU k] (.bool (q k))) (hl:l.length<2 ^ 40):kP 241 [.ls (l.map aK), .func (.func g) [] []] (iV (da q l 0)):=by
  have rr0 b' (h:(da q l 0)=b':=by first | exact lF zd0 hr0 hj0 ‹_› | exact hj0):=h;exact bp Tryz.func241<|Kl 2 7 (ln aK l)<|Mg 0<|uW aK l [0,1,7,8] (fun a _=>([aW<|l.map aK,bW (bX g) [] [],nV l.length,nV a],[])) (fun a=>da q l (0:Nat)=da q a (l.length - a.length)) sA (fun _ _ zd0 _ hr0 a hj0=>Kh 0 a<|Kf 0<|li<|rr0 (-1)) fun a _ zd0 _ b c d hr0 e _ f hj0=>have f:=f.trans<|congrArg some<|aG b;Kt 0 e<|Kx 4 f<|Kp 0 (hp b<|by exact aN zd0 hr0)<|Mb (q b) (fun _=>Kf 1<|li<|rr0<|Int.ofNat a) fun _=>Kl 0 18 (dt a)<|Kf 0<|d<|by exact jL zd0 hr0 hj0 (by omega)
theorem Xn (l:List TUnit) (g:Nat) (p:PId) (q:TUnit→Bool) (hp : ∀ k,k∈l→kP g [eU k, .pptr [aV p] 0 0] (.bool (q k))) (hl:l.length<2 ^ 40):kP 241 [.ls (l.map aK), .func (.func g) [] [.pptr [aV p] 0 0]] (iV (da q l 0)):=by
  have rr0 b' (h:(da q l 0)=b':=by first | exact lF zd0 hr0 hj0 ‹_› | exact hj0):=h;exact bp Tryz.func241<|Kl 2 7 (ln aK l)<|Mg 0<|uW aK l [0,1,7,8] (fun a _=>([aW<|l.map aK,bW (bX g) [] [AV.pptr [av [iV p.a,iV p.i,iV p.n]] 0 0],nV l.length,nV a],[])) (fun a=>da q l (0:Nat)=da q a (l.length - a.length)) sA (fun _ _ zd0 _ hr0 a hj0=>Kh 0 a<|Kf 0<|li<|rr0 (-1)) fun a _ zd0 _ b c d hr0 e _ f hj0=>have f:=f.trans<|congrArg some<|aG b;Kt 0 e<|Kx 4 f<|Kp 0 (hp b<|by exact aN zd0 hr0)<|Mb (q b) (fun _=>Kf 1<|li<|rr0<|Int.ofNat a) fun _=>Kl 0 18 (dt a)<|Kf 0<|d<|by exact jL zd0 hr0 hj0 (by omega)
theorem PM {D a:Nat} {w:TUnit} {r:List TUnit} {u:TUnit} (h:D=Nat.max a (kX (w::r))∧a≤2 ^ 20) (q0:nU w<nU u) (q1:mA w<nU w) (hn:nU u≤2 ^ 20):D=Nat.max (Nat.max a (1+mA w)) (kX r)∧Nat.max a (1+mA w)≤2 ^ 20:=by
  grind [kX]
theorem SS {D a:Nat} (h:D=Nat.max a (kX [])∧a≤2 ^ 20):D=a:=by
  simp_all [BS]
theorem Gq : ∀ (u:TUnit),nU u≤2 ^ 20→kP 227 [eU u] (nV (mA u)):=by
  refine TUnit.ind fun u ih hn=>?_
  have hkl:=bj u
  have ihk : ∀ k,k∈u.kids→kP 227 [eU k] (nV (mA k)):=fun k hk=>ih k hk (bG (sj (gN hk)) hn)
  have rr0 b' (h:(Int.ofNat (mA u))=b':=by (rw [JP,SS hj0])):=h;exact bp Tryz.func227<|Kl 5 8 (ln aK u.kids)<|Mg 0<|MF aK u.kids (0:Nat) [3,7,8,9] (fun a _ b=>([nV b,aW<|u.kids.map aK,nV u.kids.length,nV a],[aZ 8 false 0 [av [iV u.act,iV u.item,iV u.n,iV u.kind,ak u.label,aW<|u.head.map aQ,aW<|u.words.map aQ,aW<|u.kids.map aK]]])) (fun a b=>kX u.kids=b.max (kX a)∧b≤2 ^ 20) sA (fun _ _ a _ _ _ b hj0=>Kh 0 b<|Kf 1<|li<|rr0<|Int.ofNat a) fun a _ b c d e f g i j _ l _=>have l:=(l).trans<|congrArg some<|aG e;have hj0:=cG (J:=fun a b=>kX u.kids=b.max (kX a)∧b≤2 ^ 20) (a:=b) i d;have d:=gN<|aN c i;have m:=DY e;Kt 0 j<|Mx l<|Kp 4 (ihk e<|by exact aN c i)<|Kl 0 16 (bO (x:=(1:Int)+Int.ofNat (mA e)) (n:=(1:Nat)+mA e) eG)<|Kl 0 17 (oR (k:=IntKind.i64)<|Ud b<|1+mA e)<|Kl 1 18 (jo a)<|K1 0 (.frz 1 [3,7,8,9]) (et rt ti)<|Mf<|g (b.max<|1+mA e)<|by exact PM hj0 d m hn
theorem JI (g:Nat) (q:TUnit→Bool) : ∀ (u:TUnit),(∀ x,x∈bc u→kP g [eU x] (.bool (q x)))→u.kids.length<2 ^ 40→(∀ x,x∈bc u→x.kids.length<2 ^ 40)→kP 228 [eU u, .func (.func g) [] []] (.bool (vK q u)):=by
  refine TUnit.ind fun u ih hp hl hk=>?_
  have ihk : ∀ k,k∈u.kids→kP 228 [eU k, .func (.func g) [] []] (.bool (vK q k)):=fun k hm=>ih k hm (fun x hx=>hp x (bf hm hx)) (hk k (Jn hm)) (fun x hx=>hk x (bf hm hx))
  have hs:=hp u (c8 u)
  have rr0 b' (h:(vK q u)=b':=by first | (rw [xw];simp only [aS,aj,bS, *];done) | (rw [xw,hj0,MZ]) | (rw [xw,hj0,zN];simp only [aS,aj,bS, *];done)):=h;exact bp Tryz.func228<|Kp 3 hs<|Kn 0 (q u) (fun _=>Ky 0<|rr0 false) fun _=>Kl 2 13 (ln aK u.kids)<|K1 0 (.frz 0 [1,12,13,14]) ti<|uW aK u.kids [1,12,13,14] (fun a _=>([bW (bX g) [] [],aW<|u.kids.map aK,nV u.kids.length,nV a],[])) (fun a=>(q u && (dx u.kids).all q)=(dx a).all q) (by (simp only [aS,aj,bS, *];done)) (fun _ _ _ _ _ a hj0=>Kh 0 a<|Ky 0<|rr0 true) fun a _ b _ c d e f i _ j hj0=>have j:=j.trans<|congrArg some<|aG c;Kt 0 i<|Mx j<|Kp 4 (ihk c<|by exact aN b f)<|Kn 0 (vK q c) (fun _=>Kf 0<|cq<|rr0 false) fun _=>Kl 0 22 (dt a)<|K1 0 (.frz 0 [1,12,13,14]) ti<|Mf<|e<|by simp_all [zN]
theorem LO (u:TUnit) (n:Nat) (hn:n<2 ^ 40):kD 229 [eU u, .ptr 0 0 0 0] (aa [.row 1 false 0 [nV n]]) (.bool true) (aa [.row 1 false 0 [nV (n+1)]]):=by
  exact fH Tryz.func229 fun a=>Kl 3 5 (jo n)<|K1 1 (.frz 1 [3]) (et rt ti)<|Mf a
theorem F0 : ∀ (u:TUnit),∀ (n:Nat),n+nU u<2 ^ 40→kD 228 [eU u, .func (.func 229) [] [.ptr 0 0 0 0]] (aa [.row 1 false 0 [nV n]]) (.bool true) (aa [.row 1 false 0 [nV (n+nU u)]]):=by
  refine TUnit.ind fun u ih n hn=>?_
  have hq:=iI u
  have hl:=bj u
  exact QM Tryz.func228<|K1 3 (.frz 1 [1,2,7,8]) (et rt ti)<|Me (LO u n oA)<|Kl 4 13 (ln aK u.kids)<|Mg 0<|MF aK u.kids (n+1) [1,12,13,14] (fun a _ b=>([bW (bX 229) [] [bJ 0 0 0 0],aW<|u.kids.map aK,nV u.kids.length,nV a],[aZ 1 false 0 [nV b]])) (fun a b=>n+nU u=b+dM a∧b+dM a<2 ^ 40) oA (fun _ _ a _ _ _ b _=>Kh 0 b<|Kf 0<|et (aU<|eJ true) (by simp_all [lr]:(aa [AObj.row 1 false 0 [nV a]])=(aa [AObj.row 1 false 0 [nV (n+nU u)]]))) fun a _ b c _ d e f g h _ i _=>have i:=i.trans<|congrArg some<|aG d;have c:=aN c g;have g:b+nU d<2 ^ 40:=(by grind [ba]);Kt 0 h<|Mx i<|K1 4 (.frz 1 [1,12,13,14,18,19]) (et rt ti)<|Me (ih d c b g)<|Kl 2 22 (jo a)<|Kf 0<|f (b+nU d)<|by grind [ba]
theorem Dq (u:TUnit) (hn:nU u<2 ^ 39):kP 133 [eU u] (nV (nU u)):=by
  have rr0 b' (h:(Int.ofNat (nU u))=b':=by (rw [fS])):=h;exact bp Tryz.func133<|Mg 5<|M0 (.ren [1,0] [] [3,4,5])<|M1 (.frz 1 [3,4,5]) (et rt ti)<|Me (F0 u 0 oA)<|Kf 1<|li<|rr0<|Int.ofNat<|0+nU u
noncomputable abbrev qT (ep n:Nat):AObj:= .row 1 false 0 [.slice 1 ep 0 n none]
noncomputable abbrev K5 (ep:Nat) (l:List PId):AObj:= .row 3 true ep (l.map aV)
theorem UL (u:TUnit):kD 230 [eU u, .ptr 0 0 0 0] (aa [.row 1 false 0 [.nils]]) (.bool true) (aa [qT 0 1,K5 0 [bV u]]):=by
  exact XO Tryz.func230 (.go 8<|.ren [0,2,1] [] [3]<|.frz 2 [3] .fin) fun a=>et (cW rt rt ti) a
theorem UM (u:TUnit) (ep n:Nat) (l:List PId) (hn:n=l.length) (hl:l.length<2 ^ 30):kD 230 [eU u, .ptr 0 0 0 0] (aa [qT ep n,K5 ep l]) (.bool true) (aa [qT (ep+1) (n+1),K5 (ep+1) (l++ [bV u])]):=by
  exact fH Tryz.func230 fun a=>K1 5 .app (cW (aU ep) (sA:n=(l.map aV).length) (by (refine ap (m:=2 ^ 31) ?_ ?_ ?_ <;> omega):small (n+1) 24=true))<|M1 (.obj 1<|aZ 3 true (ep+1)<|(l++ [PId.mk u.act u.item u.n]).map aV) (congrArg (aZ 3 true<|ep+1)<|dg (f:=aV) (l:=l) (ws:=[PId.mk u.act u.item u.n]))<|K1 1 (.frz 2 [3]) (cW (tR 3 true (ep+1) 2<|aX IX<|l++ [PId.mk u.act u.item u.n]) rt ti)<|Mf a
theorem LD : ∀ (u:TUnit),∀ (ep n:Nat) (l:List PId),n=l.length→l.length+nU u<2 ^ 30→kC 228 [eU u, .func (.func 230) [] [.ptr 0 0 0 0]] (aa [qT ep n,K5 ep l])
    (fun v h=>∃ y:Nat × Nat × List PId,(y.2.1=y.2.2.length∧y.2.2=l++dQ u)∧v = .bool true∧h=aa [qT y.1 y.2.1,K5 y.1 y.2.2]):=by
  refine TUnit.ind fun u ih ep n l hn hl=>?_
  have hq:=iI u
  have hkl:=bj u
  exact ph Tryz.func228 fun a=>K1 3 (.frz 2 [1,2,7,8]) (cW (tR 3 true ep 2<|aX IX l) rt ti)<|Me (UM u ep n l hn oA)<|Kl 4 13 (ln aK u.kids)<|Mg 0<|Tc aK u.kids (ep+1) (n+1) (l++ [bV u]) [1,12,13,14] (fun a _ b c d=>([bW (bX 230) [] [bJ 0 0 0 0],aW<|u.kids.map aK,nV u.kids.length,nV a],[aZ 1 false 0 [aI 1 b 0 c none],aZ 3 true b<|d.map aV])) (fun a _ b c=>b=c.length∧c++hJ a=l++ [bV u]++hJ u.kids∧c.length+dM a<2 ^ 30) gR (fun _ _ b c d _ _ _ e _=>Kh 0 e<|Kf 0<|a (b,c,d)<|by grind [qn, mT]) fun a _ b c d e f g i j k m _ o _=>have o:=(o).trans<|congrArg some<|aG g;have :=cG (J:=fun a b=>b.2.1=b.2.2.length∧b.2.2++hJ a=l++ [bV u]++hJ u.kids∧b.2.2.length+dM a<2 ^ 30) (a:=(b,c,d)) k f;have e:=aN e k;have f:d.length+nU g<2 ^ 30:=(by grind [ba]);Kt 0 m<|Mx o<|K1 4 (.frz 2 [1,12,13,14,18,19]) (cW (tR 3 true b 2<|aX IX d) rt ti)<|Mq (ih g e b c d oA f) fun b _=>Kl 2 22 (dt a)<|Kf 0<|j b.1 b.2.1 b.2.2<|by grind [ba, fN, tU]
theorem Ti (l:List PWord) (hl:l.length≤300) (hs : ∀ w,w∈l→w.text.length≤2 ^ 39):kP 373 [.ls (l.map aQ)] (.bool (n8 l)):=by
  have hv:=I8 (l.map PWord.text) (by grind) (fun s hm=>by grind)
  have rr0 b' (h:(n8 l)=b':=by (simp only [n8,aS,aj,bS, *])):=h;exact bp Tryz.func373<|Kl 3 7 (ln aQ l)<|Mg 0<|lV Nat Nat (List aO) aQ l [0,3,6,7,8] (fun a _=>([aW<|l.map aQ,ab,aW<|l.map aQ,nV l.length,nV a],[])) (fun a _ b c d=>([aW<|l.map aQ,aI 0 b 0 c none,aW<|l.map aQ,nV l.length,nV a],[aZ 1 true b<|d.map mr])) (fun a=>a=l) (fun a _ b c=>b=c.length∧(0:Nat)<c.length∧c++List.map PWord.text a=List.map PWord.text l∧c.length+a.length=l.length) (by rfl) (fun _ _ _ _ _ a _=>Kh 0 a<|Kl 1 19 (ln aQ l)<|Kd 1 256 (Int.ofNat l.length) (fun a _=>Kt 0 (b7 a)<|Mp (aM.onArgs (.cons (Le.lsn (sA:((l.map PWord.text).map mr) = [])) .nil) hv:kP 245 [ab] _)<|MV (b7 a)<|Kf 0<|cq<|rr0<|pB<|l.map PWord.text) fun a _=>Mh (bL a)<|My (bL a)<|Kf 0<|cq<|rr0 false) (fun a _ _ _ b c _ d _ e _ f g=>Kt 0 e<|Mx f<|Kl 9 17 (jo a)<|Mg 0<|M0 (.ren [1,0] [] [0,3,6,7,8])<|M1 (.frz 1 [0,3,6,7,8]) (et rt ti)<|Mf<|d 0 1 [b.text]<|by (refine ⟨rfl,by simp,?_,?_⟩ <;> (rw [← g]) <;> (first | rfl | grind))) (fun _ _ a b c _ _ _ d _=>Kh 0 d<|Kl 1 19 (ln aQ l)<|Kd 1 256 (Int.ofNat l.length) (fun d _=>Mg 0<|M2 (.fsl 0 [21] 22<|c.map mr) ti (cW (aU a) (tA mr c b (oA:(c).length=b))<|aX IZ c)<|Ml 22 (eH (c.map mr) false<|aX IZ c)<|Mt (b7 d)<|Mp (aM.onArgs (.cons (cw (sA:((l.map PWord.text).map mr)=(c.map mr))) .nil) hv:kP 245 [aW (c.map mr)] _)<|MV (b7 d)<|Kf 0<|cq<|rr0<|pB<|l.map PWord.text) fun a _=>Mh (bL a)<|My (bL a)<|Kf 0<|cq<|rr0 false) fun a _ b c d _ _ e f _ g _ i _ j k=>Kt 0 i<|Mx j<|K1 6 .app (cW (aU b) (sA:c=(d.map mr).length) (by (refine ap (m:=2 ^ 20) ?_ ?_ ?_ <;> omega):small (c+1) 16=true))<|M1 (.obj 0<|aZ 1 true (b+1)<|(d++ [e.text]).map mr) (congrArg (aZ 1 true<|b+1)<|dg (f:=mr) (l:=d) (ws:=[e.text]))<|Kl 1 17 (jo a)<|K1 0 (.frz 1 [0,3,6,7,8]) (et (tR 1 true (b+1) 1<|aX IZ<|d++ [e.text]) ti)<|Mf<|g (b+1) (c+1) (d++ [e.text])<|by (refine ⟨by simp_all,by simp,?_,?_⟩ <;> first | (rw [← k.2.2.1];simp;done) | grind)
theorem ov (a b:Nat):Int.ofNat (a+b)=Int.ofNat a+Int.ofNat b:=rfl
theorem Qo (u:TUnit) (h1:u.head.length≤300) (h2:u.words.length≤300) (h3:u.kids.length<2 ^ 30) (h4:u.label.length≤2 ^ 39) (h5 : ∀ w,w∈u.head→w.text.length≤2 ^ 39) (h6 : ∀ w,w∈u.words→w.text.length≤2 ^ 39):kP 348 [eU u] (.bool (lw u)):=by
  have hlk : ∀ (m:List ((Int × aO) × Bool)) (a:Int) (s:aO),eh (some (.bool false)) false (bz true 2 [(0,1),(1,2)] (.agg [iV a, .str s]) (bR pZ dZ m 0) 0)=some (.bool (MD mn (a,s) m)):=fun m a s=>E5 Jo m (a,s)
  have hup : ∀ (m:List ((Int × aO) × Bool)) (a:Int) (s:aO),qR (bR pZ dZ m 0) m.length (.agg [iV a, .str s]) (.bool true) (bz true 2 [(0,1),(1,2)] (.agg [iV a, .str s]) (bR pZ dZ m 0) 0)=some (bR pZ dZ (fV mn (a,s) true m) 0,(fV mn (a,s) true m).length):=fun m a s=>Iu Jo m (a,s)
  have r1:=Ti u.head h1 h5
  have r2:=Ti u.words h2 h6
  have r3:=tZ u.label h4
  have rr0 b' (h:(lw u)=b':=by first | (rw [lw,hj0,md];simp only [CP,bZ,ov,cond_true,cond_false,aS,aj,bS,xg,Bool.false_and,Bool.not_true,Ap,Bool.true_and, *];first | done | rfl) | (simp only [lw,CP,bZ,ov,cond_true,cond_false,aS,aj,bS, *];done) | (simp only [lw,md,CP,bZ,ov,cond_true,cond_false,aS,aj,bS, *];done) | (simp only [lw,md,CP,bZ,ov,cond_true,cond_false,aS,aj,bS,xg,Bool.false_and,Bool.not_true,Ap,Bool.true_and, *];first | done | rfl)):=h;exact bp Tryz.func348<|Kj 4 u.kind 0 (fun _ b=>Kn 3 (dH u.label (ByteArray.mk #[]).data.toList) (fun b=>Mt (b7 b)<|Mt (b7 b)<|Mt (b7 b)<|Mt (b7 b)<|Mt (b7 b)<|Mt (b7 b)<|Mt (b7 b)<|MV (b7 b)<|Ky 1<|rr0 false) fun c=>Kh 0 (bL c)<|Kh 0 (bL c)<|Kl 0 16 (ln aQ u.head)<|Mh (bL c)<|Kh 0 (bL c)<|Kh 0 (bL c)<|Kl 0 19 (ln aQ u.words)<|Mh (bL c)<|Kl 0 20 (Le.wr (x:=Int.ofNat u.head.length+Int.ofNat u.words.length) eG)<|Mh (bL c)<|Kw 0 (bL c)<|Mb (ar 0<|Int.ofNat u.head.length+Int.ofNat u.words.length) (fun b=>have :=au b;Ky 0<|rr0 false) fun c=>have :=aF c;Kl 4 48 (ln aK u.kids)<|Mg 0<|MF aK u.kids ([]:List ((Int × aO) × Bool)) [1,3,47,48,49] (fun b _ c=>([bJ 0 0 0 0,AV.map 1,aW<|u.kids.map aK,nV u.kids.length,nV b],[aZ 8 false 0 [av [iV u.act,iV u.item,iV u.n,iV u.kind,ak u.label,aW<|u.head.map aQ,aW<|u.words.map aQ,aW<|u.kids.map aK]],AObj.map (bR pZ dZ c 0) c.length])) (fun b c=>md u.kind u.kids []=md u.kind b c) (by rfl) (fun _ _ _ _ _ _ b hj0=>Kh 0 b<|Kl 2 74 (ln aK u.kids)<|Kf 1<|cq<|rr0<|aj<|ar 64<|Int.ofNat u.kids.length) fun c _ d _ _ e f g _ i _ j hj0=>have j:=j.trans<|congrArg some<|aG e;Kt 0 i<|Mx j<|Kl 11 59 (oR (k:=IntKind.i64) b)<|Kp 1 (yh 0 e.kind)<|Kn 1 (iO 0 e.kind) (fun b=>Mt (b7 b)<|Mt (b7 b)<|MV (b7 b)<|Ky 1<|rr0 false) fun b=>Kh 0 (bL b)<|Kh 0 (bL b)<|M1 (.look<|eJ<|MD mn (e.kind,e.label) d) (hlk d e.kind e.label)<|My (bL b)<|Mb (MD mn (e.kind,e.label) d) (fun _=>Kf 0<|cq<|rr0 false) fun _=>K1 1 (.upd (bR pZ dZ (fV mn (e.kind,e.label) true d) 0) (fV mn (e.kind,e.label) true d).length) (hup d e.kind e.label)<|Kl 0 71 (dt c)<|K1 0 (.frz 2 [1,3,47,48,49]) (cW (tM (fV mn (e.kind,e.label) true d).length 2 (by exact b8 Jo zc _ _:eN (bR pZ dZ (fV mn (e.kind,e.label) true d) 0)=0)) rt ti)<|Mf<|g (fV mn (e.kind,e.label) true d)<|by (rw [hj0,md];simp only [aS,aj,bS, *];done)) fun _ _=>Kp 1 (vG u.kind)<|Kb 1 (dH (cM u.kind) (ByteArray.mk #[]).data.toList) (fun b=>Mt b<|Mt b<|Mt b<|MV b<|Ky 5<|rr0 false) fun b=>Kh 0 b<|Kh 0 b<|Mp r3<|Mh b<|Kw 0 b<|Kn 0 (jH u.label) (fun b=>Mt (b7 b)<|Mt (b7 b)<|Mt (b7 b)<|MV (b7 b)<|Ky 3<|rr0 false) fun b=>Kh 0 (bL b)<|Kh 0 (bL b)<|Mp r1<|Mh (bL b)<|Kw 0 (bL b)<|Kn 0 (n8 u.head) (fun b=>Mt (b7 b)<|Mt (b7 b)<|Mt (b7 b)<|MV (b7 b)<|Ky 1<|rr0 false) fun b=>Kh 0 (bL b)<|Kh 0 (bL b)<|Mp r2<|Mh (bL b)<|Kw 0 (bL b)<|Mn (n8 u.words) (fun _=>Ky 0<|rr0 false) fun _=>Kl 4 48 (ln aK u.kids)<|Mg 0<|MF aK u.kids ([]:List ((Int × aO) × Bool)) [1,3,47,48,49] (fun b _ c=>([bJ 0 0 0 0,AV.map 1,aW<|u.kids.map aK,nV u.kids.length,nV b],[aZ 8 false 0 [av [iV u.act,iV u.item,iV u.n,iV u.kind,ak u.label,aW<|u.head.map aQ,aW<|u.words.map aQ,aW<|u.kids.map aK]],AObj.map (bR pZ dZ c 0) c.length])) (fun b c=>md u.kind u.kids []=md u.kind b c) (by rfl) (fun _ _ _ _ _ _ b hj0=>Kh 0 b<|Kl 2 74 (ln aK u.kids)<|Kf 1<|cq<|rr0<|aj<|ar 64<|Int.ofNat u.kids.length) fun b _ c _ _ d e f _ g _ i hj0=>have i:=i.trans<|congrArg some<|aG d;Kt 0 g<|Mx i<|Kp 13 (yh u.kind d.kind)<|Kn 1 (iO u.kind d.kind) (fun b=>Mt (b7 b)<|Mt (b7 b)<|MV (b7 b)<|Ky 1<|rr0 false) fun g=>Kh 0 (bL g)<|Kh 0 (bL g)<|M1 (.look<|eJ<|MD mn (d.kind,d.label) c) (hlk c d.kind d.label)<|My (bL g)<|Mb (MD mn (d.kind,d.label) c) (fun _=>Kf 0<|cq<|rr0 false) fun _=>K1 1 (.upd (bR pZ dZ (fV mn (d.kind,d.label) true c) 0) (fV mn (d.kind,d.label) true c).length) (hup c d.kind d.label)<|Kl 0 71 (dt b)<|K1 0 (.frz 2 [1,3,47,48,49]) (cW (tM (fV mn (d.kind,d.label) true c).length 2 (by exact b8 Jo zc _ _:eN (bR pZ dZ (fV mn (d.kind,d.label) true c) 0)=0)) rt ti)<|Mf<|f (fV mn (d.kind,d.label) true c)<|by (rw [hj0,md];simp only [aS,aj,bS, *];done)
theorem H2 (u:TUnit) (hl:nU u<2 ^ 29):kC 228 [eU u, .func (.func 230) [] [.ptr 0 0 0 0]] (aa [.row 1 false 0 [.nils]])
    (fun v h=>∃ y:Nat × Nat × List PId,(y.2.1=y.2.2.length∧y.2.2=dQ u)∧v = .bool true∧h=aa [qT y.1 y.2.1,K5 y.1 y.2.2]):=by
  have hq:=iI u
  have hkl:=bj u
  exact ph Tryz.func228 fun a=>K1 3 (.frz 1 [1,2,7,8]) (et rt ti)<|Me (UL u)<|Kl 4 13 (ln aK u.kids)<|Mg 0<|Tc aK u.kids (0:Nat) (1:Nat) ([bV u]:List PId) [1,12,13,14] (fun a _ b c d=>([bW (bX 230) [] [bJ 0 0 0 0],aW<|u.kids.map aK,nV u.kids.length,nV a],[aZ 1 false 0 [aI 1 b 0 c none],aZ 3 true b<|d.map aV])) (fun a _ b c=>b=c.length∧c++hJ a= [bV u]++hJ u.kids∧c.length+dM a<2 ^ 30) gR (fun _ _ b c d _ _ _ e f=>Kh 0 e<|Kf 0<|a (b,c,d)<|by (refine ⟨f.1,?_⟩;have:=f.2.1;rw [qn,ez] at this;rw [this,mT];rfl)) fun a _ b c d e f g i j k l _ m _=>have m:=(m).trans<|congrArg some<|aG g;have :=cG (J:=fun a b=>b.2.1=b.2.2.length∧b.2.2++hJ a= [bV u]++hJ u.kids∧b.2.2.length+dM a<2 ^ 30) (a:=(b,c,d)) k f;have :=aN e k;have e:d.length+nU g<2 ^ 30:=(by grind [ba]);Kt 0 l<|Mx m<|K1 4 (.frz 2 [1,12,13,14,18,19]) (cW (tR 3 true b 2<|aX IX d) rt ti)<|Mq (LD g b c d oA e) fun b _=>Kl 2 22 (dt a)<|Kf 0<|j b.1 b.2.1 b.2.2<|by grind [ba, fN, tU]
theorem O7 (u:TUnit) (hl:nU u<2 ^ 29):kP 134 [eU u] (.ls ((dQ u).map aV)):=by
  have rr0 b' (h:((dQ u).map aV)=b':=by (rw [hy0.2])):=h;exact bp Tryz.func134<|Mg 4<|M0 (.ren [1,0] [] [3,4,5])<|M1 (.frz 1 [3,4,5]) (et rt ti)<|Mq (H2 u hl) fun a hy0=>Mg 1<|M2 (.fsl 0 [] 2<|a.2.2.map aV) ti (cW (aU a.1) (tA aV a.2.2 a.2.1 (oA:(a.2.2).length=a.2.1))<|aX IX a.2.2)<|Ml 2 (eH (a.2.2.map aV) false<|aX IX a.2.2)<|Mf<|cw<|rr0<|a.2.2.map aV
theorem UI (u:TUnit) (hl:nU u<2 ^ 20):kP 349 [eU u] (.bool (O8 u)):=by
  have hb:(dQ u).length<2 ^ 20:=by grind [tU]
  have hi:=O7 u (by omega)
  have hlk : ∀ (m:List (PId × Bool)) (a b c:Int),eh (some (.bool false)) false (bz true 3 [(0,1),(1,1),(2,1)] (.agg [iV a,iV b,iV c]) (bR aV dZ m 0) 0)=some (.bool (MD bw ⟨a,b,c⟩ m)):=fun m a b c=>E5 HE m ⟨a,b,c⟩
  have hup : ∀ (m:List (PId × Bool)) (a b c:Int),qR (bR aV dZ m 0) m.length (.agg [iV a,iV b,iV c]) (.bool true) (bz true 3 [(0,1),(1,1),(2,1)] (.agg [iV a,iV b,iV c]) (bR aV dZ m 0) 0)=some (bR aV dZ (fV bw ⟨a,b,c⟩ true m) 0,(fV bw ⟨a,b,c⟩ true m).length):=fun m a b c=>Iu HE m ⟨a,b,c⟩
  have rr0 b' (h:(O8 u)=b':=by ((try clear gh1);(try clear gh2);(try clear gh3);(try clear gh4);(try clear gh5);(try clear gh6);(try clear gh7);have e:=BO (kenc:=aV) (f:=dZ) za0 0;simp only [e,lM] at *;simp only [O8,fL,bw,bV,bE,hj0,KF,aS,aj,bS, *];first | done | rfl)):=h;exact bp Tryz.func349<|Kp 2 hi<|Kl 4 12 (ln aV<|dQ u)<|Mg 0<|MF aV (dQ u) ([]:List (PId × Bool)) [1,3,4,11,12,13] (fun d _ g=>([bJ 0 0 0 0,aW<|(dQ u).map aV,AV.map 1,aW<|(dQ u).map aV,nV (dQ u).length,nV d],[aZ 8 false 0 [av [iV u.act,iV u.item,iV u.n,iV u.kind,ak u.label,aW<|u.head.map aQ,aW<|u.words.map aQ,aW<|u.kids.map aK]],AObj.map (bR aV dZ g 0) g.length])) (fun d g=>BZ (dQ u) []=BZ d g) (by rfl) (fun _ _ za0 _ _ _ d hj0=>Kh 0 d<|K1 1 (.look<|eJ<|MD bw (PId.mk 0 0 0) za0) (hlk za0 0 0 0)<|Kb 2 (MD bw (PId.mk 0 0 0) za0) (fun d=>Kt 0 d<|Kt 0 d<|Ku 0 d<|Kj 0 (Int.ofNat (bR aV dZ za0 0).length) 1 (fun d gh2=>Mt d<|Mt d<|Mt d<|Mt d<|Mt d<|Mt d<|MV d<|Ky 0<|rr0 true) fun d gh2=>Kh 0 d<|Kh 0 d<|Kh 0 d<|Kh 0 d<|Kh 0 d<|Kj 0 (Int.ofNat (bR aV dZ za0 0).length) (Int.ofNat ((dQ u).map aV).length) (fun g gh3=>Kt 0 g<|Kt 0 g<|Kt 0 g<|Kt 0 g<|Kt 0 g<|Kt 0 g<|Mv (kL ((Tryz.prog).underlying 27) u.act u.item u.n 0 0 0 h0)<|Mt g<|Kh 0 d<|MV g<|My d<|Kf 0<|cq<|rr0<|ae u.kind 0==(ae u.act 0 && (ae u.item 0 && ae u.n 0))) fun g gh3=>Mh g<|Mh g<|Mh g<|Mh g<|Mh g<|Mh g<|Mh g<|Mh d<|My g<|My d<|Ky 0<|rr0 false) fun d=>Mh d<|Mh d<|My d<|Kj 6 (Int.ofNat (bR aV dZ za0 0).length) (Int.ofNat ((dQ u).map aV).length) (fun d gh4=>Kt 0 d<|Kt 0 d<|Kt 0 d<|Kt 0 d<|Kt 0 d<|Kt 0 d<|Mv (kL ((Tryz.prog).underlying 27) u.act u.item u.n 0 0 0 h0)<|Mt d<|Ku 0 d<|Kf 1<|cq<|rr0<|ae u.kind 0==(ae u.act 0 && (ae u.item 0 && ae u.n 0))) fun d gh4=>Mh d<|Mh d<|Mh d<|Mh d<|Mh d<|Mh d<|Mh d<|My d<|Ky 1<|rr0 false) fun d _ za0 _ _ g i j _ k _ l hj0=>Kt 0 k<|Mx l<|K1 4 (.upd (bR aV dZ (fV bw (PId.mk g.a g.i g.n) true za0) 0) (fV bw (PId.mk g.a g.i g.n) true za0).length) (hup za0 g.a g.i g.n)<|Kl 0 19 (jo d)<|K1 0 (.frz 2 [1,3,4,11,12,13]) (cW (tM (fV bw (PId.mk g.a g.i g.n) true za0).length 2 (by exact b8 HE zc _ _:eN (bR aV dZ (fV bw (PId.mk g.a g.i g.n) true za0) 0)=0)) rt ti)<|Mf<|j (fV bw (PId.mk g.a g.i g.n) true za0)<|by (rw [hj0];rfl)
/-- What a tree's parts must be, so that the walks can count. -/
def rY (x:TUnit):Prop:=x.head.length≤300∧x.words.length≤300∧x.label.length≤2 ^ 39∧(∀ w,w∈x.head→w.text.length≤2 ^ 39)∧∀ w,w∈x.words→w.text.length≤2 ^ 39
def mX (u:TUnit):Prop:=nU u≤2 ^ 19∧∀ x,x∈bc u→rY x
theorem F1 (u:TUnit) (h:mX u):kP 228 [eU u, .func (.func 348) [] []] (.bool (vK lw u)):=
  JI 348 lw u
    (fun x hx=>by
      obtain ⟨a,b,c,d,e⟩:=h.2 x hx
      have h1:=bj x
      have h2:=dA hx
      have h3:=h.1
      grind [Qo])
    (by have h1:=bj u;have h3:=h.1;omega)
    (fun x hx=>by
      have h1:=bj x
      have h2:=dA hx
      have h3:=h.1
      omega)
theorem wE (u:TUnit) (h:mX u):kP 300 [eU u] (.bool (kU u)):=by
  have h1:=h.1
  have e1:=F1 u h
  have e2:=Gq u (by omega)
  have e3:=Dq u (by omega)
  have e4:=UI u (by omega)
  have hd:=DY u
  have rr0 b' (h:(kU u)=b':=by (simp only [kU,aS,aj,bS, *];done)):=h;exact bp Tryz.func300<|Kp 2 e1<|Kb 0 (vK lw u) (fun a=>Kt 0 a<|Mp e2<|Mt a<|Ku 0 a<|Kn 0 (ar 8<|Int.ofNat<|mA u) (fun a=>Kt 0 (b7 a)<|Mp e3<|Mt (b7 a)<|Ku 0 (b7 a)<|Kn 0 (ar 1024<|Int.ofNat<|nU u) (fun a=>Kt 0 (b7 a)<|Mp e4<|MV (b7 a)<|Kf 0<|cq<|rr0<|O8 u) fun a=>Mh (bL a)<|My (bL a)<|Ky 0<|rr0 false) fun a=>Mh (bL a)<|Mh (bL a)<|My (bL a)<|Ky 2<|rr0 false) fun a=>Mh a<|Mh a<|My a<|Ky 4<|rr0 false
theorem qC (l:List PWord) (hl:l.length<2 ^ 30):kP 183 [.ls (l.map aQ)] (.ls (l.map aQ)):=by
  cases l with
  | nil=>exact aM.ls0 (QQ.less Le.nils) (P9.lessB (u:= .ls []) (by kernel_rfl))
  | cons w r=>grind [QZ]
noncomputable abbrev vk:AObj:= .row 8 false 0 [.agg [iV 0,iV 0,iV 0,iV 0, .str [], .nils, .nils, .nils]]
theorem Gk : ∀ (u:TUnit),nU u≤2 ^ 20→(∀ x,x∈bc u→x.head.length<2 ^ 30∧x.words.length<2 ^ 30)→kP 87 [eU u] (eU u):=by
  refine TUnit.ind fun u ih hn ht=>?_
  have hkl:=bj u
  have c1:=qC u.head (ht u (c8 u)).1
  have c2:=qC u.words (ht u (c8 u)).2
  have ihk : ∀ k,k∈u.kids→kP 87 [eU k] (eU k):=fun k hk=>ih k hk (bG (sj (gN hk)) hn) (fun x hx=>ht x (bf hk hx))
  have rr0 b' (h:(u.kids.map aK)=b':=by first | rfl | (rw [← hj0];rfl) | (rw [← hj0.2.2.1,ez])):=h;let q1:=List.map aQ u.words;let q2:=List.map aQ u.head;exact bp Tryz.func87<|Kp 3 c1<|Kp 1 c2<|Kl 7 16 (ln aK u.kids)<|Mg 0<|lV Nat Nat (List TUnit) aK u.kids [1,2,3,15,16,17] (fun a _=>([bJ 0 0 0 0,bJ 1 0 0 0,ab,aW<|u.kids.map aK,nV u.kids.length,nV a],[aZ 8 false 0 [av [iV u.act,iV u.item,iV u.n,iV u.kind,ak u.label,aW<|u.head.map aQ,aW<|u.words.map aQ,aW<|u.kids.map aK]],aZ 8 false 0 [av [iV 0,iV 0,iV 0,iV 0,ak [],ab,ab,ab]]])) (fun a _ b c d=>([bJ 0 0 0 0,bJ 1 0 0 0,aI 2 b 0 c none,aW<|u.kids.map aK,nV u.kids.length,nV a],[aZ 8 false 0 [av [iV u.act,iV u.item,iV u.n,iV u.kind,ak u.label,aW<|u.head.map aQ,aW<|u.words.map aQ,aW<|u.kids.map aK]],aZ 8 false 0 [av [iV 0,iV 0,iV 0,iV 0,ak [],ab,ab,ab]],aZ 8 true b<|d.map aK])) (fun a=>a=u.kids) (fun a _ b c=>b=c.length∧(0:Nat)<c.length∧c++a=u.kids∧c.length+a.length=u.kids.length) (by rfl) (fun _ _ _ _ _ a hj0=>Kh 0 a<|Kl 0 27 bu<|Kf 3 (aL (lc<|lc<|lc<|lc<|lc<|lc<|lc<|.cons (cw<|rr0 []) .nil)<|by kernel_rfl:Le _ (AV.agg [iV u.act,iV u.item,iV u.n,iV u.kind,AV.str u.label,AV.ls q2,AV.ls q1,AV.ls []]))) (fun a _ _ b c d _ e f g _ i _=>have i:=(i).trans<|congrArg some<|aG c;have hj0:=cG (J:=fun a _=>a=u.kids) (a:=()) f b;Kt 0 g<|Mx i<|Kp 4 (ihk c gR)<|K1 1 (.obj 3<|aZ 8 true 0<|List.map aK [c]) (congrArg (aZ 8 true 0)<|R7 (f:=aK) (g:=Go.Ev.eU) (ws:=[c]) aG)<|Kl 1 26 (dt a)<|K1 0 (.ren [0,1,3,2] [3] [1,2,3,15,16,17]) (tS 8 true 0<|aX gC [c])<|M1 (.frz 3 [1,2,3,15,16,17]) (j5 (tR 8 true 0 3<|aX gC [c]) rt rt ti)<|Mf<|e 0 1 [c]<|by (refine ⟨rfl,by simp,?_,?_⟩ <;> (rw [← hj0]) <;> (first | rfl | grind))) (fun _ _ a b c _ _ _ d hj0=>let e:=List.map aK c;Kh 0 d<|Mg 0<|M2 (.fsl 2 [1,2] 27 e) (cW rt rt ti) (cW (aU a) (tA aK c b (oA:(c).length=b))<|aX gC c)<|Ml 27 (eH e false<|aX gC c)<|Kf 3 (aL (lc<|lc<|lc<|lc<|lc<|lc<|lc<|.cons (cw<|rr0 e) .nil)<|by kernel_rfl:Le _ (AV.agg [iV u.act,iV u.item,iV u.n,iV u.kind,AV.str u.label,AV.ls q2,AV.ls q1,AV.ls e]))) fun a _ b c d _ e f g _ i j l _ n _=>have n:=(n).trans<|congrArg some<|aG f;have hj0:=cG (J:=fun a b=>b.2.1=b.2.2.length∧(0:Nat)<b.2.2.length∧b.2.2++a=u.kids∧b.2.2.length+a.length=u.kids.length) (a:=(b,c,d)) j e;Kt 0 l<|Mx n<|Kp 4 (ihk f gR)<|K1 0 .app (cW (aU b) (sA:c=(d.map aK).length) (by (refine ap (m:=2 ^ 21) ?_ ?_ ?_ <;> omega):small (c+1) 120=true))<|M1 (.obj 2<|aZ 8 true (b+1)<|(d++ [f]).map aK) (congrArg (aZ 8 true<|b+1)<|xW (f:=aK) (g:=Go.Ev.eU) (l:=d) (ws:=[f]) aG)<|Kl 1 26 (dt a)<|K1 0 (.frz 3 [1,2,3,15,16,17]) (j5 (tR 8 true (b+1) 3<|aX gC<|d++ [f]) rt rt ti)<|Mf<|i (b+1) (c+1) (d++ [f])<|by (refine ⟨by simp_all,by simp,?_,?_⟩ <;> first | (rw [← hj0.2.2.1];simp;done) | grind)
theorem U2 (p:PId) (u:TUnit) (h:By (cZ p u) true) (hn:nU u≤2 ^ 20) (ht : ∀ x,x∈bc u→x.head.length<2 ^ 30∧x.words.length<2 ^ 30):kP 48 [eU u,aV p] (.tuple [eU (eu p u), .bool true]):=by
  have hw:=D6 p u h hn
  have hlen:=ll (p:=p) u
  have hpos:0<(aA p u).length:=pc.2 (ko h)
  have hm:eu p u∈bc u:=It u _ (Ph h)
  have hf:eu p u=gD (aA p u) ((aA p u).length - 1):=by unfold eu;simp_all
  have hc:=Gk (eu p u) (bG (dA hm) hn) (fun x hx=>ht x (by
    grind [ii]))
  rw [hf] at hc ⊢
  have hz:=PB hpos
  exact bp Tryz.func48<|Kp 5 hw<|Kl 2 11 (ln aK<|aA p u)<|Kh 0 hz<|Kl 2 16 (ln aK<|aA p u)<|Kl 0 17 (DF (aA p u).length)<|Mx ((aT aK (oA:(aA p u).length - 1<(aA p u).length)).trans<|congrArg some<|aG _)<|Kp 0 hc<|Kf 1<|bv<|cV [av [iV (gD (aA p u)<|(aA p u).length - 1).act,iV (gD (aA p u)<|(aA p u).length - 1).item,iV (gD (aA p u)<|(aA p u).length - 1).n,iV (gD (aA p u)<|(aA p u).length - 1).kind,ak (gD (aA p u)<|(aA p u).length - 1).label,aW<|List.map aQ (gD (aA p u)<|(aA p u).length - 1).head,aW<|List.map aQ (gD (aA p u)<|(aA p u).length - 1).words,aW<|List.map aK (gD (aA p u)<|(aA p u).length - 1).kids],eJ true]
theorem U4 (p:PId) (u:TUnit) (h:By (cZ p u) false) (hn:nU u≤2 ^ 20):kP 48 [eU u,aV p] (.tuple [eU bx, .bool false]):=by
  have hw:=Is p u h hn
  exact bp Tryz.func48<|Kp 5 hw<|Kf 7 (cn<|.cons (aL (lc<|lc<|lc<|lc<|lc<|.cons bu<|.cons bu<|.cons bu .nil)<|by kernel_rfl)<|lc .nil:Le _ (cV [av [iV 0,iV 0,iV 0,iV 0,ak [],ab,ab,ab],eJ false]))
theorem Pg (p:PId) (u:TUnit) (hn:nU u≤2 ^ 20) (ht : ∀ x,x∈bc u→x.head.length<2 ^ 30∧x.words.length<2 ^ 30):kP 48 [eU u,aV p] (.tuple [eU (eu p u), .bool (cZ p u)]):=by
  cases h:cZ p u with
  | true=>grind [U2]
  | false=>
    have:=U4 p u h hn
    rwa [show bx=eu p u by unfold eu;simp_all] at this
theorem X7 (l:List PWord) (g:Nat) (q:PWord→Bool) (hp : ∀ k,k∈l→kP g [aQ k] (.bool (q k))) (hl:l.length<2 ^ 40):kP 350 [.ls (l.map aQ), .func (.func g) [] []] (iV (da q l 0)):=by
  have rr0 b' (h:(da q l 0)=b':=by first | exact lF zd0 hr0 hj0 ‹_› | exact hj0):=h;exact bp Tryz.func350<|Kl 2 7 (ln aQ l)<|Mg 0<|uW aQ l [0,1,7,8] (fun a _=>([aW<|l.map aQ,bW (bX g) [] [],nV l.length,nV a],[])) (fun a=>da q l (0:Nat)=da q a (l.length - a.length)) sA (fun _ _ zd0 _ hr0 a hj0=>Kh 0 a<|Kf 0<|li<|rr0 (-1)) fun a _ zd0 _ b c d hr0 e _ f hj0=>Kt 0 e<|Kx 4 f<|Kp 0 (hp b<|by exact aN zd0 hr0)<|Mb (q b) (fun _=>Kf 1<|li<|rr0<|Int.ofNat a) fun _=>Kl 0 18 (dt a)<|Kf 0<|d<|by exact jL zd0 hr0 hj0 (by omega)
theorem XM (l:List PWord) (g:Nat) (q:PWord→Bool) (hp : ∀ k,k∈l→kP g [aQ k] (.bool (q k))) (hl:l.length<2 ^ 40):kP 303 [.ls (l.map aQ), .func (.func g) [] []] (.bool (l.any q)):=by
  have h:=X7 l g q hp hl
  have rr0 b' (h:(l.any q)=b':=by (rw [kG];simp only [aS,aj,bS,rZ])):=h;exact bp Tryz.func303<|Kp 2 h<|Kf 1<|cq<|rr0<|aj<|ar (da q l 0) 0
theorem Bi (w:PWord):kP 302 [aQ w] (.bool (od w)):=by
  exact bp Tryz.func302<|Kv 4 (CH ((Tryz.prog).underlying 62) w.act w.item w.at_ 0 0 0<|aa [aZ 4 false 0 [av [ak w.text,iV w.act,iV w.item,iV w.at_]]])<|Kf 0<|bv<|eJ<|aj<|ae w.act 0 && (ae w.item 0 && ae w.at_ 0)
theorem Qy (u:TUnit) (h1:u.head.length<2 ^ 40) (h2:u.words.length<2 ^ 40):kP 301 [eU u] (.bool (CV u)):=by
  have c1:=XM u.head 302 od (fun k _=>Bi k) h1
  have c2:=XM u.words 302 od (fun k _=>Bi k) h2
  have rr0 b' (h:(CV u)=b':=by (simp only [CV,fL,bw,bV,bE,aS,aj,bS, *];first | done | rfl)):=h;exact bp Tryz.func301<|Kv 5 (kL ((Tryz.prog).underlying 27) u.act u.item u.n 0 0 0<|aa [aZ 8 false 0 [av [iV u.act,iV u.item,iV u.n,iV u.kind,ak u.label,aW<|u.head.map aQ,aW<|u.words.map aQ,aW<|u.kids.map aK]]])<|Kb 0 (ae u.act 0 && (ae u.item 0 && ae u.n 0)) (fun a=>Kt 0 a<|Kt 0 a<|Kt 0 a<|Mp c1<|Mt a<|Ku 0 a<|Kn 0 (u.head.any od) (fun a=>Kt 0 (b7 a)<|Kt 0 (b7 a)<|Kt 0 (b7 a)<|Mp c2<|Mt (b7 a)<|Ku 0 (b7 a)<|Kf 0<|cq<|rr0<|aj<|u.words.any od) fun a=>Mh (bL a)<|Mh (bL a)<|Mh (bL a)<|Mh (bL a)<|My (bL a)<|Ky 0<|rr0 false) fun a=>Mh a<|Mh a<|Mh a<|Mh a<|My a<|Ky 2<|rr0 false
theorem Vd (u:TUnit) (h:mX u):kP 244 [eU u] (.bool (Gp u)):=by
  have e1:=wE u h
  have e2:=JI 301 CV u (fun x hx=>by
      obtain ⟨a,b,_⟩:=h.2 x hx
      grind [Qy]) (by have h1:=bj u;have h3:=h.1;omega) (fun x hx=>by
      have h1:=bj x
      have h2:=dA hx
      have h3:=h.1
      omega)
  have rr0 b' (h:(Gp u)=b':=by (simp only [Gp,aS,aj,bS, *];first | done | rfl)):=h;exact bp Tryz.func244<|Kp 2 e1<|Kb 0 (kU u) (fun c=>Kt 0 c<|Mp e2<|MV c<|Kf 0<|cq<|rr0<|vK CV u) fun c=>Mh c<|My c<|Ky 0<|rr0 false
theorem K8 (p:PId) (u:TUnit) (hh:cZ p u=false) (hn:nU u≤2 ^ 20):kP 148 [eU u,aV p] (.tuple [aV bE,iV (-1), .bool false]):=by
  have hw:=Is p u hh hn
  exact bp Tryz.func148<|Kp 6 hw<|Kf 8<|bv<|cV [av [iV 0,iV 0,iV 0],iV (-1),eJ false]
theorem K7 (p:PId) (u:TUnit) (hh:cZ p u=true) (hl:ar (Int.ofNat (aA p u).length) 2=true) (hn:nU u≤2 ^ 20):kP 148 [eU u,aV p] (.tuple [aV bE,iV (-1), .bool false]):=by
  have hw:=D6 p u hh hn
  exact bp Tryz.func148<|Kp 6 hw<|Kl 2 14 (ln aK<|aA p u)<|Kt 0 hl<|Kf 3<|bv<|cV [av [iV 0,iV 0,iV 0],iV (-1),eJ false]
theorem N2 (p:PId) (u:TUnit) (h:jQ p u=false) (hn:nU u≤2 ^ 20):kP 148 [eU u,aV p] (.tuple [aV bE,iV (-1), .bool false]):=by
  grind [K8, K7, jQ]
theorem N0 (p:PId) (u:TUnit) (h:jQ p u=true) (hn:nU u≤2 ^ 20):kP 148 [eU u,aV p] (.tuple [aV (sP p u),iV (pF p u), .bool true]):=by
  have hl:ar (Int.ofNat (aA p u).length) 2=false:=by grind [jQ]
  have hl2:2≤(aA p u).length:=by have:=aF hl;grind
  have hh:cZ p u=true:=by
    cases e:cZ p u with
    | true=>rfl
    | false=>grind [PZ]
  have hw:=D6 p u hh hn
  have hlen:=ll (p:=p) u
  have hm:G4 p u∈bc u:=It u _ (iY (by omega))
  have hkn : ∀ k,k∈(G4 p u).kids→nU k≤2 ^ 20:=fun k hk=>bG (dA (ii hm (Jn hk))) hn
  have hkl:(G4 p u).kids.length<2 ^ 40:=by have:=bj (G4 p u);have:=dA hm;omega
  have hi:=Xn (G4 p u).kids 242 p (cZ p) (fun k hk=>by
    grind [cZ, K9, LQ]) hkl
  rw [Hc h,Hd h]
  generalize hG:G4 p u=y at *
  have hG2:gD (aA p u) ((aA p u).length - 2)=y:=hG
  have rr0 b' (h:((bV y).a)=b':=by (rw [hG2];rfl)):=h;have rr1 b' (h:((bV y).i)=b':=by (rw [hG2];rfl)):=h;have rr2 b' (h:((bV y).n)=b':=by (rw [hG2];rfl)):=h;exact bp Tryz.func148<|Kp 6 hw<|Kl 2 14 (ln aK<|aA p u)<|Kh 0 hl<|Kl 2 19 (ln aK<|aA p u)<|Kl 0 20 (bO (x:=Int.ofNat (aA p u).length - (2:Int)) (n:=(aA p u).length - 2) eG)<|Mx ((aT aK (oA:(aA p u).length - 2<(aA p u).length)).trans<|congrArg some<|aG _)<|Mg 5<|M0 (.ren [2,3,0,1] [] [4,8,24,25])<|M1 (.frz 2 [4,8,24,25]) (cW rt rt ti)<|Mp (aM.onArgs (.cons (cw (by (rw [hG2];done):(y.kids.map aK)=(List.map aK (gD (aA p u) ((aA p u).length - 2)).kids)))<|lc .nil) hi:kP 241 [aW (List.map aK (gD (aA p u) ((aA p u).length - 2)).kids),bW (bX 242) [] [AV.pptr [av [iV p.a,iV p.i,iV p.n]] 0 0]] _)<|Kf 6 (cn<|.cons (aL (.cons (li<|rr0 (gD (aA p u)<|(aA p u).length - 2).act)<|.cons (li<|rr1 (gD (aA p u)<|(aA p u).length - 2).item)<|.cons (li<|rr2 (gD (aA p u)<|(aA p u).length - 2).n) .nil)<|by kernel_rfl)<|lc<|lc .nil:Le _ (cV [av [iV (gD (aA p u) ((aA p u).length - 2)).act,iV (gD (aA p u) ((aA p u).length - 2)).item,iV (gD (aA p u) ((aA p u).length - 2)).n],iV (da (cZ p) y.kids 0),eJ true]))
theorem N1 (p:PId) (u:TUnit) (hn:nU u≤2 ^ 20):kP 148 [eU u,aV p] (.tuple [aV (sP p u),iV (pF p u), .bool (jQ p u)]):=by
  grind [jQ, N0, Uz, N4, N2]
theorem WN (p:PId) (u:TUnit) (h:cZ p u=false) (hn:nU u≤2 ^ 20):kP 226 [eU u,aV p] (.ls ((pq p u).map aV)):=by
  have hw:=Is p u h hn
  have e:pq p u = []:=by unfold pq;rw [y8 h];rfl
  rw [e]
  let q:= [aZ 8 false 0 [av [iV u.act,iV u.item,iV u.n,iV u.kind,ak u.label,aW (u.head.map aQ),aW (u.words.map aQ),aW (u.kids.map aK)]],aZ 3 false 0 [av [iV p.a,iV p.i,iV p.n]]];let q1:= [ab,ab,iV (IntKind.i64.wrap (0 - 2))];exact bp Tryz.func226<|Kp 5 hw<|Mg 4<|W6 [5,6,7] (q1,q) True 0 ti fun _ _=>Kf 4 bu
theorem WM (p:PId) (u:TUnit) (h:cZ p u=true) (hn:nU u≤2 ^ 20):kP 226 [eU u,aV p] (.ls ((pq p u).map aV)):=by
  have hw:=D6 p u h hn
  have hlen:=ll (p:=p) u
  have hpos:0<(aA p u).length:=pc.2 (ko h)
  have hac:=CU p u
  have rr0 b' (h:((pq p u).map aV)=b':=by first | rfl | (rw [Ql hx0 ‹_›];rfl) | (rw [Qm hx0.2.1 oA ‹_›])):=h;exact bp Tryz.func226<|Kp 5 hw<|Kl 0 6 (eH ((aA p u).map aK) false<|aX gC<|aA p u)<|Kl 1 12 (ln aK<|aA p u)<|Kl 0 13 (Le.wr (x:=Int.ofNat (aA p u).length - 2) eG)<|K1 0 (.frz 0 [5,6,7]) ti<|QD Int Nat Nat (List PId) (Int.ofNat (aA p u).length - 2) [5,6,7] (fun a=>([ab,aW<|(aA p u).map aK,iV a],[])) (fun a b c d=>([aI 0 b 0 c none,aW<|(aA p u).map aK,iV a],[aZ 3 true b<|d.map aV])) (fun a=>a=Int.ofNat (aA p u).length - (2:Int)) (fun a _ b c=>b=c.length∧c=nR p u (a+(1:Int)).toNat∧((-1):Int)≤a∧a+(2:Int)≤↑(aA p u).length∧c.length≤(aA p u).length) (fun a=>(a+1).toNat) (fun a _ _ _=>(a+1).toNat) (by rfl) (fun a hx0 _ b=>have hx0:=hx0;Kd 1 a 0 (fun _ _=>Kl 2 20 (zT (x:=a) oA)<|Mx ((aT aK (gR:a.toNat<(aA p u).length)).trans<|congrArg some<|aG _)<|Kl 6 17 (Le.wr (x:=a - 1) eG)<|Kf 0<|b (a - 1) 0 1 [PId.mk (gD (aA p u) a.toNat).act (gD (aA p u) a.toNat).item (gD (aA p u) a.toNat).n] (by exact ⟨rfl,L8 hx0 (by omega),by omega,by grind,by grind⟩) oA) fun _ _=>Kf 1 (Le.lsn<|rr0 []:Le _ (ab))) fun a b c d hx0 _ e=>have hx0:=hx0;Kd 1 a 0 (fun _ _=>Kl 2 20 (zT (x:=a) oA)<|Mx ((aT aK (oA:a.toNat<(aA p u).length)).trans<|congrArg some<|aG _)<|K1 2 .app (cW (aU b) (sA:c=(d.map aV).length) (by (refine ap (m:=2 ^ 21) ?_ ?_ ?_ <;> omega):small (c+1) 24=true))<|M1 (.obj 0<|aZ 3 true (b+1)<|(d++ [PId.mk (gD (aA p u) a.toNat).act (gD (aA p u) a.toNat).item (gD (aA p u) a.toNat).n]).map aV) (congrArg (aZ 3 true<|b+1)<|dg (f:=aV) (l:=d) (ws:=[PId.mk (gD (aA p u) a.toNat).act (gD (aA p u) a.toNat).item (gD (aA p u) a.toNat).n]))<|Kl 2 17 (Le.wr (x:=a - 1) eG)<|Kf 0<|e (a - 1) (b+1) (c+1) (d++ [PId.mk (gD (aA p u) a.toNat).act (gD (aA p u) a.toNat).item (gD (aA p u) a.toNat).n]) (by exact ⟨by simp_all,GB hx0.2.1 hx0.2.2.2.1 (by omega),by omega,by omega,by (have z:=GB hx0.2.1 hx0.2.2.2.1 (by omega);grind)⟩) oA) fun _ _=>Mg 1<|M2 (.fsl 0 [] 4<|d.map aV) ti (cW (aU b) (tA aV d c (oA:(d).length=c))<|aX IX d)<|Ml 4 (eH (d.map aV) false<|aX IX d)<|Mf<|cw<|rr0<|d.map aV
theorem GA (p:PId) (u:TUnit) (hn:nU u≤2 ^ 20):kP 226 [eU u,aV p] (.ls ((pq p u).map aV)):=by
  grind [WM, WN]
end Go.Proofs.YtempcdhknnjebaaGreatDoor
