/- Functions walked: what each of them answers, for the law of steps: part 1. Conditions: those that each theorem names. -/
import Derived.Test.YtempcdhknnjebaaGreatDoorCmb
import Derived.Test.YtempcdhknnjebaaGreatDoorLay
import Derived.Test.YtempcdhknnjebaaGreatDoorLay2
namespace Go.Proofs.YtempcdhknnjebaaGreatDoor
open Go Go.Ev
noncomputable abbrev b9:=@Le.bool
noncomputable abbrev aW:=@AV.ls
noncomputable abbrev aw:=@AV.agg
noncomputable abbrev aj:=@AV.str
noncomputable abbrev bZ:=@AV.func
noncomputable abbrev bQ:=@Fn.func
noncomputable abbrev fg:=@Le.ps
noncomputable abbrev kO:=@AV.ps
noncomputable abbrev bV:=@Le.refl
noncomputable abbrev eu:=@AV.bool
noncomputable abbrev cn:=@Le.tuple
noncomputable abbrev cK:=@AV.tuple
noncomputable abbrev ak:=@AV.nils
noncomputable abbrev aZ:=@AObj.row
noncomputable abbrev fK:=@Rb
noncomputable abbrev bJ:=@AV.ptr
noncomputable abbrev aG:=@AV.slice
noncomputable abbrev bo:=@Le.nils
noncomputable abbrev Yu:=@ARes.val
noncomputable def pO (x:PWord):Bool:=ax (ar 100 (.ofNat x.text.length))
noncomputable def me (ws:List PWord):Bool:=ws.all pO && ax (ar 300 (.ofNat ws.length))
theorem Fp (x:Int):kP 213 [iV x] (.bool false):=by
  have rr0 b' (h:(false)=b':=by simp [aP]):=h;exact wk Tryz.func213 (.go 4 .fin)<|b9<|rr0<|ax<|ab x x
theorem jl (x y:Int):kP 114 [iV x,iV y] (iV (gw x y)):=by
  have rr0 b' (h:(gw x y)=b':=by simp [gw, *]):=h;exact bg Tryz.func114<|Kp 1 (Fp x)<|Kp 1 (Fp y)<|Kb 7 (ar x y) (fun _=>Kf 0<|li<|rr0 (-1)) fun _=>Kb 2 (ar y x) (fun _=>Kf 0<|li<|rr0 1) fun _=>Kf 0<|li<|rr0 0
theorem EG (ws:List PWord) (hl:ws.length<2 ^ 60):kP 261 [.ls (ws.map aQ)] (.bool (me ws)):=by
  have rr0 b' (h:(me ws)=b':=by simp only [me,pO,aS,ax,bS, *]):=h;exact bg Tryz.func261<|Mg 1<|rB aQ ws [0,3] (fun a _=>([aW<|ws.map aQ,nV a],[])) (fun a=>ws.all pO=a.all pO) (by rfl) (fun _ _ _ _ _ a _=>Kl 2 6 (ln aQ ws)<|Kh 0 a<|Kl 1 18 (ln aQ ws)<|Kf 1<|b9<|rr0<|ax<|ar 300<|Int.ofNat ws.length) fun a _ _ _ b c d _ e _ f _=>Kl 2 6 (ln aQ ws)<|Kt 0 e<|Kx 1 f<|Ka 3 100 (Int.ofNat<|List.length b.text) (fun _ _=>Ky 0<|rr0 false) fun _ _=>Kl 1 9 (dB a)<|Kf 0<|d<|by simp_all [pO]
mutual
noncomputable def kg:TUnit→Bool
  | ⟨_,_,_,_,label,h,w,kids⟩=>ax (ar 30 (.ofNat label.length)) && me h && me w && xM kids
noncomputable def xM:List TUnit→Bool
  | []=>true
  | u::r=>kg u && xM r
end
theorem BW : ∀ (l:List TUnit),xM l=l.all kg
  | []=>by rw [xM];rfl
  | u::r=>by rw [xM,BW r];rfl
theorem BJ (u:TUnit):kg u=(ax (ar 30 (.ofNat u.label.length)) && me u.head && me u.words && u.kids.all kg):=by
  obtain ⟨a,b,c,d,e,f,g,h⟩:=u
  rw [kg,BW];rfl
theorem Nn : ∀ (u:TUnit),o6 u→kP 185 [eU u] (.bool (kg u)):=by
  refine TUnit.ind fun u ih hf=>?_
  obtain ⟨f1,f2,f3,f4⟩:=lV.1 hf
  have rr0 b' (h:(kg u)=b':=by rw [BJ];simp only [aS,ax,bS, *]):=h;exact bg Tryz.func185<|Ka 6 30 (Int.ofNat<|List.length u.label) (fun a _=>Mt a<|Mt a<|Mt a<|MV a<|Ky 3<|rr0 false) fun a _=>Kh 0 a<|Kh 0 a<|Mp (EG u.head f1)<|Mh a<|Kw 0 a<|Kn 0 (me u.head) (fun a=>Mt (cQ a)<|Mt (cQ a)<|Mt (cQ a)<|MV (cQ a)<|Ky 1<|rr0 false) fun a=>Kh 0 (bN a)<|Kh 0 (bN a)<|Mp (EG u.words f2)<|Mh (bN a)<|Kw 0 (bN a)<|Mn (me u.words) (fun _=>Ky 0<|rr0 false) fun _=>K1 0 (.frz 0 [1,3]) ti<|rB aV u.kids [1,3] (fun a _=>([AV.pptr [aw [iV u.act,iV u.item,iV u.n,iV u.kind,aj u.label,aW<|u.head.map aQ,aW<|u.words.map aQ,aW<|u.kids.map aV]] 0 0,nV a],[])) (fun a=>u.kids.all kg=a.all kg) (by rfl) (fun _ _ _ _ _ a _=>Kl 3 23 (ln aV u.kids)<|Kh 0 a<|Ky 0<|rr0 true) fun a _ b _ c d e f g _ i _=>have i:=i.trans<|congrArg some<|aH c;Kl 3 23 (ln aV u.kids)<|Kt 0 g<|Kx 2 i<|Kp 0 (ih c (by exact aM b f)<|by exact f4 _ (aM b f))<|Kn 0 (kg c) (fun _=>Kf 0<|b9<|rr0 false) fun _=>Kl 1 26 (dB a)<|Kf 0<|e sA
mutual
noncomputable def mc:TUnit→Int→Int→Int
  | ⟨_,_,_,_,_,_,_,kids⟩,deep,most=>match ar 20 deep with | true=>most+1 | false=>md kids deep most 1
noncomputable def md:List TUnit→Int→Int→Int→Int
  | [],_,_,n=>n
  | k::r,deep,most,n=>match ar most n with | true=>n | false=>md r deep most (n+mc k (deep+1) (most - n))
end
theorem OW (u:TUnit) (deep most:Int):mc u deep most=match ar 20 deep with | true=>most+1 | false=>md u.kids deep most 1:=by
  obtain ⟨a,b,c,d,e,f,g,h⟩:=u;rw [mc];rfl
mutual
theorem EE : ∀ (u:TUnit) (deep most:Int),0≤most→1≤mc u deep most∧mc u deep most≤most+1
  | ⟨_,_,_,_,_,_,_,kids⟩,deep,most,h=>by
    rw [mc]
    split
    · omega
    · exact EF kids deep most 1 (by omega) (by omega)
theorem EF : ∀ (l:List TUnit) (deep most n:Int),1≤n→n≤most+1→1≤md l deep most n∧md l deep most n≤most+1
  | [],_,_,n,h1,h2=>by grind [md]
  | k::r,deep,most,n,h1,h2=>by
    rw [md]
    split
    · omega
    · rename_i h
      have:=aF h
      have:=EE k (deep+1) (most - n) (by omega)
      exact EF r deep most _ (by omega) (by omega)
end
theorem RM : ∀ (u:TUnit),o6 u→∀ (deep most:Int),0≤deep→deep≤21→0≤most→most≤2 ^ 20→kP 184 [eU u,iV deep,iV most] (iV (mc u deep most)):=by
  refine TUnit.ind fun u ih hf deep most d1 d2 m1 m2=>?_
  obtain ⟨f1,f2,f3,f4⟩:=lV.1 hf
  have rr0 b' (h:(mc u deep most)=b':=by rw [OW];simp only [md,aS,ax,bS, *]):=h;exact bg Tryz.func184<|Ka 3 20 deep (fun _ _=>Kl 1 12 (Le.wr (x:=most+1) eT)<|Kf 0<|li<|rr0<|most+1) fun _ _=>K1 1 (.frz 0 [1,2,3,7,8]) ti<|Ng aV u.kids (1:Int) [1,2,3,7,8] (fun a _ b=>([iV deep,iV most,AV.pptr [aw [iV u.act,iV u.item,iV u.n,iV u.kind,aj u.label,aW<|u.head.map aQ,aW<|u.words.map aQ,aW<|u.kids.map aV]] 0 0,iV b,nV a],[])) (fun a b=>(1:Int)≤b∧b≤most+(1:Int)∧md u.kids deep most (1:Int)=md a deep most b) oA (fun _ _ a _ _ _ b _=>Kl 3 16 (ln aV u.kids)<|Kh 1 b<|Mh b<|Mh b<|My b<|Kf 2<|li<|rr0 a) fun a _ b c _ d e f g i _ j _=>have j:=j.trans<|congrArg some<|aH d;Kl 3 16 (ln aV u.kids)<|Kt 1 i<|Kt 0 i<|Kt 0 i<|Ku 0 i<|Mn (ar most b) (fun i=>have :=aF i;Kx 3 j<|Kl 2 32 (Le.wr (x:=deep+1) eT)<|Kl 2 35 (Le.wr (x:=most - b) eT)<|Mp (ih d (by exact aM c g) (by exact f4 _ (aM c g)) (deep+1) (most - b) oA oA oA oA)<|have :=EE d (deep+1) (most - b) oA;Kl 0 37 (Le.wr (x:=b+mc d (deep+1) (most - b)) eT)<|Kl 2 24 (dB a)<|Kf 0<|f (b+mc d (deep+1) (most - b))<|by (refine ⟨by omega,by omega,?_⟩;first | rfl | grind [md])) fun a=>have :=ap a;Kf 1<|li<|rr0 b
noncomputable def GU (u:TUnit) (most:Int):Bool:=ax (ar most (mc u 0 most)) && kg u
theorem Ty (u:TUnit) (most:Int) (hf:o6 u) (m1:0≤most) (m2:most≤2 ^ 20):kP 90 [eU u,iV most] (.bool (GU u most)):=by
  have rr0 b' (h:(GU u most)=b':=by simp only [GU,aS,ax,bS, *]):=h;exact bg Tryz.func90<|Kp 3 (RM u hf 0 most oA oA m1 m2)<|Kn 2 (ar most<|mc u 0 most) (fun a=>Kt 0 (cQ a)<|Mp (Nn u hf)<|MV (cQ a)<|Kf 0<|b9<|rr0<|kg u) fun a=>Mh (bN a)<|My (bN a)<|Ky 0<|rr0 false
noncomputable def wI (s:aO):Bool:=ax (ar 100 (.ofNat s.length))
noncomputable def wH (s:PStep):Bool:=ax (ar 100 (.ofNat s.label.length))
noncomputable def xl (x:PItem):Bool:=
  ax (ar 12 (.ofNat x.at_.length)) && ax (ar 12 (.ofNat x.to.length)) && ax (ar 300 (.ofNat x.old.length)) && ax (ar 300 (.ofNat x.new.length)) && ax (ar 100 (.ofNat x.label.length)) && ax (ar 100 (.ofNat x.for_.length))
  && ax (ar 100 (.ofNat x.start.event.length)) && ax (ar 100 (.ofNat x.event.length)) && ax (ar 2 (.ofNat x.by_.length)) && GU x.unit 30
noncomputable def Gs (y:PItem):Bool:=ar 0 (.ofNat y.by_.length) && ar 0 (.ofNat (gD y.by_ 0).by_.length)
mutual
noncomputable def mF:PItem→Bool
  | ⟨k,a,t,w,nn,u,o,n,lb,fo,st,ac,it,dy,ev,by_⟩=>xl ⟨k,a,t,w,nn,u,o,n,lb,fo,st,ac,it,dy,ev,by_⟩ && (o.all wI && (n.all wI && (a.all wH && (t.all wH && Gz by_))))
noncomputable def Gz:List PItem→Bool
  | []=>true
  | u::r=>(ax (Gs u) && mF u) && Gz r
end
noncomputable def GN (y:PItem):Bool:=ax (Gs y) && mF y
theorem Gq : ∀ (l:List PItem),Gz l=l.all GN
  | []=>by rw [Gz];rfl
  | u::r=>by rw [Gz,Gq r];rfl
theorem De (x:PItem):mF x=(xl x && (x.old.all wI && (x.new.all wI && (x.at_.all wH && (x.to.all wH && x.by_.all GN))))):=by
  obtain ⟨k,a,t,w,nn,u,o,n,lb,fo,st,ac,it,dy,ev,by_⟩:=x
  rw [mF,Gq];rfl
theorem Tb : ∀ (x:PItem),m5 x→kP 54 [eI x] (.bool (mF x)):=by
  refine PItem.ind fun x ih hf=>?_
  obtain ⟨f1,f2,f3,f4,f5,f6,f7⟩:=qa.1 hf
  have hu:kP 90 [eU x.unit,iV 30] (.bool (GU x.unit 30)):=Ty x.unit 30 f6 (by omega) (by omega)
  have rr0 b' (h:(mF x)=b':=by rw [De,xl];simp only [GN,Gs,wI,wH,aS,ax,bS, *]):=h;exact bg Tryz.func54<|Kl 4 10 (ln az x.at_)<|Ka 1 12 (Int.ofNat x.at_.length) (fun a _=>Mt a<|Mt a<|Mt a<|MV a<|Ky 17<|rr0 false) fun a _=>Kh 0 a<|Kh 0 a<|Kl 0 15 (ln az x.to)<|Mh a<|Kw 0 a<|Ka 0 12 (Int.ofNat x.to.length) (fun a _=>Mt a<|Mt a<|Mt a<|MV a<|Ky 15<|rr0 false) fun a _=>Kh 0 a<|Kh 0 a<|Kl 0 21 (ln mM x.old)<|Mh a<|Kw 0 a<|Ka 0 300 (Int.ofNat x.old.length) (fun a _=>Mt a<|Mt a<|Mt a<|MV a<|Ky 13<|rr0 false) fun a _=>Kh 0 a<|Kh 0 a<|Kl 0 27 (ln mM x.new)<|Mh a<|Kw 0 a<|Ka 0 300 (Int.ofNat x.new.length) (fun a _=>Mt a<|Mt a<|Mt a<|MV a<|Ky 11<|rr0 false) fun a _=>Kh 0 a<|Kh 0 a<|Kh 0 a<|Kw 0 a<|Ka 0 100 (Int.ofNat<|List.length x.label) (fun a _=>Mt a<|Mt a<|Mt a<|MV a<|Ky 9<|rr0 false) fun a _=>Kh 0 a<|Kh 0 a<|Kh 0 a<|Kw 0 a<|Ka 0 100 (Int.ofNat<|List.length x.for_) (fun a _=>Mt a<|Mt a<|Mt a<|Mt a<|MV a<|Ky 7<|rr0 false) fun a _=>Kh 0 a<|Kh 0 a<|Kh 0 a<|Kh 0 a<|Kw 0 a<|Ka 0 100 (Int.ofNat<|List.length x.start.event) (fun a _=>Mt a<|Mt a<|Mt a<|MV a<|Ky 5<|rr0 false) fun a _=>Kh 0 a<|Kh 0 a<|Kh 0 a<|Kw 0 a<|Ka 0 100 (Int.ofNat<|List.length x.event) (fun a _=>Mt a<|Mt a<|Mt a<|MV a<|Ky 3<|rr0 false) fun a _=>Kh 0 a<|Kh 0 a<|Kl 0 58 (ln MF x.by_)<|Mh a<|Kw 0 a<|Ka 0 2 (Int.ofNat x.by_.length) (fun a _=>Mt a<|Mt a<|Mt a<|MV a<|Ky 1<|rr0 false) fun a _=>Kh 0 a<|Kh 0 a<|Mp hu<|Mh a<|Kw 0 a<|Mn (GU x.unit 30) (fun _=>Ky 0<|rr0 false) fun _=>K1 0 (.frz 0 [1,3]) ti<|rB mM x.old [1,3] (fun a _=>([AV.pptr [aw [iV x.kind,aW<|x.at_.map az,aW<|x.to.map az,iV x.where_,iV x.nth_,iV x.unit.act,iV x.unit.item,iV x.unit.n,iV x.unit.kind,aj x.unit.label,aW<|x.unit.head.map aQ,aW<|x.unit.words.map aQ,aW<|x.unit.kids.map aV,aW<|x.old.map mM,aW<|x.new.map mM,aj x.label,aj x.for_,iV x.start.kind,iV x.start.day,aj x.start.event,iV x.act,iV x.item,iV x.day,aj x.event,aW<|x.by_.map MF]] 0 0,nV a],[])) (fun a=>x.old.all wI=a.all wI) (by rfl) (fun _ _ _ _ _ a _=>Kl 3 70 (ln mM x.old)<|Kh 0 a<|Mg 0<|rB mM x.new [1,4] (fun a _=>([AV.pptr [aw [iV x.kind,aW<|x.at_.map az,aW<|x.to.map az,iV x.where_,iV x.nth_,iV x.unit.act,iV x.unit.item,iV x.unit.n,iV x.unit.kind,aj x.unit.label,aW<|x.unit.head.map aQ,aW<|x.unit.words.map aQ,aW<|x.unit.kids.map aV,aW<|x.old.map mM,aW<|x.new.map mM,aj x.label,aj x.for_,iV x.start.kind,iV x.start.day,aj x.start.event,iV x.act,iV x.item,iV x.day,aj x.event,aW<|x.by_.map MF]] 0 0,nV a],[])) (fun a=>x.new.all wI=a.all wI) (by rfl) (fun _ _ _ _ _ a _=>Kl 3 84 (ln mM x.new)<|Kh 0 a<|Mg 0<|rB az x.at_ [1,5] (fun a _=>([AV.pptr [aw [iV x.kind,aW<|x.at_.map az,aW<|x.to.map az,iV x.where_,iV x.nth_,iV x.unit.act,iV x.unit.item,iV x.unit.n,iV x.unit.kind,aj x.unit.label,aW<|x.unit.head.map aQ,aW<|x.unit.words.map aQ,aW<|x.unit.kids.map aV,aW<|x.old.map mM,aW<|x.new.map mM,aj x.label,aj x.for_,iV x.start.kind,iV x.start.day,aj x.start.event,iV x.act,iV x.item,iV x.day,aj x.event,aW<|x.by_.map MF]] 0 0,nV a],[])) (fun a=>x.at_.all wH=a.all wH) (by rfl) (fun _ _ _ _ _ a _=>Kl 3 98 (ln az x.at_)<|Kh 0 a<|Mg 0<|rB az x.to [1,6] (fun a _=>([AV.pptr [aw [iV x.kind,aW<|x.at_.map az,aW<|x.to.map az,iV x.where_,iV x.nth_,iV x.unit.act,iV x.unit.item,iV x.unit.n,iV x.unit.kind,aj x.unit.label,aW<|x.unit.head.map aQ,aW<|x.unit.words.map aQ,aW<|x.unit.kids.map aV,aW<|x.old.map mM,aW<|x.new.map mM,aj x.label,aj x.for_,iV x.start.kind,iV x.start.day,aj x.start.event,iV x.act,iV x.item,iV x.day,aj x.event,aW<|x.by_.map MF]] 0 0,nV a],[])) (fun a=>x.to.all wH=a.all wH) (by rfl) (fun _ _ _ _ _ a _=>Kl 3 113 (ln az x.to)<|Kh 0 a<|Mg 0<|rB MF x.by_ [1,7] (fun a _=>([AV.pptr [aw [iV x.kind,aW<|x.at_.map az,aW<|x.to.map az,iV x.where_,iV x.nth_,iV x.unit.act,iV x.unit.item,iV x.unit.n,iV x.unit.kind,aj x.unit.label,aW<|x.unit.head.map aQ,aW<|x.unit.words.map aQ,aW<|x.unit.kids.map aV,aW<|x.old.map mM,aW<|x.new.map mM,aj x.label,aj x.for_,iV x.start.kind,iV x.start.day,aj x.start.event,iV x.act,iV x.item,iV x.day,aj x.event,aW<|x.by_.map MF]] 0 0,nV a],[])) (fun a=>x.by_.all GN=a.all GN) (by rfl) (fun _ _ _ _ _ a _=>Kl 3 128 (ln MF x.by_)<|Kh 0 a<|Ky 0<|rr0 true) fun a _ b _ c d e f g _ i _=>have i:=i.trans<|congrArg some<|eJ c;Kl 3 128 (ln MF x.by_)<|Kt 0 g<|Kx 2 i<|Kl 2 138 (ln MF c.by_)<|Ka 1 0 (Int.ofNat c.by_.length) (fun g _=>Kt 0 g<|Kt 0 g<|Kt 0 g<|Mx i<|Mt g<|Kt 0 g<|Kt 0 g<|Mx ((aR MF (sA:0<(c.by_).length)).trans<|congrArg some<|eJ _)<|Mt g<|Kt 0 g<|Kt 0 g<|Kl 0 150 (ln MF (gD c.by_ 0).by_)<|Mt g<|Ku 0 g<|Ka 0 0 (Int.ofNat (gD c.by_ 0).by_.length) (fun a _=>Mt a<|Mt a<|Mt a<|Mt a<|Mt a<|Mt a<|MV a<|Ky 1<|rr0 false) fun g _=>Kh 0 g<|Kh 0 g<|Kh 0 g<|Mx i<|Mh g<|Kh 0 g<|Mp (ih c (by exact aM b f)<|by exact f7 _ (aM b f))<|Mh g<|Kw 0 g<|Mn (mF c) (fun _=>Kf 0<|b9<|rr0 false) fun _=>Kl 1 131 (dB a)<|Kf 0<|e<|by simp_all [GN, Gs]) fun g _=>Mh g<|Mh g<|Mh g<|Mh g<|Mh g<|Mh g<|Mh g<|Mh g<|Mh g<|Mh g<|My g<|Kx 3 i<|Kp 0 (ih c (by exact aM b f)<|by exact f7 _ (aM b f))<|Kn 1 (mF c) (fun _=>Kf 0<|b9<|rr0 false) fun _=>Kl 1 131 (dB a)<|Kf 0<|e<|by simp_all [GN, Gs]) fun a _ _ _ b c d _ e _ f _=>Kl 3 113 (ln az x.to)<|Kt 0 e<|Kx 2 f<|Ka 3 100 (Int.ofNat<|List.length b.label) (fun _ _=>Ky 0<|rr0 false) fun _ _=>Kl 1 116 (dB a)<|Kf 0<|d<|by simp_all [wH]) fun a _ _ _ b c d _ e _ f _=>Kl 3 98 (ln az x.at_)<|Kt 0 e<|Kx 2 f<|Ka 3 100 (Int.ofNat<|List.length b.label) (fun _ _=>Ky 0<|rr0 false) fun _ _=>Kl 1 101 (dB a)<|Kf 0<|d<|by simp_all [wH]) fun a _ _ _ b c d _ e _ f _=>Kl 3 84 (ln mM x.new)<|Kt 0 e<|Kx 2 f<|Ka 2 100 (Int.ofNat<|List.length b) (fun _ _=>Ky 0<|rr0 false) fun _ _=>Kl 1 87 (dB a)<|Kf 0<|d<|by simp_all [wI]) fun a _ _ _ b c d _ e _ f _=>Kl 3 70 (ln mM x.old)<|Kt 0 e<|Kx 2 f<|Ka 2 100 (Int.ofNat<|List.length b) (fun _ _=>Ky 0<|rr0 false) fun _ _=>Kl 1 73 (dB a)<|Kf 0<|d<|by simp_all [wI]
noncomputable def Aw (most n:Int) (a:PAct):Bool:=ar most (n+Int.ofNat a.items.length) || (ar 100 (Int.ofNat a.title.length) || (ar 60 (Int.ofNat a.start.event.length) || ax (a.items.all mF)))
noncomputable def lI (most:Int):List PAct→Int→Option Int
  | [],n=>some n
  | a::r,n=>match Aw most n a with | true=>none | false=>lI most r (n+Int.ofNat a.items.length)
noncomputable def vJ (g:PGaz):Bool:=ar 8 (Int.ofNat g.acts.length) || ar 60 (Int.ofNat g.prior.length)
noncomputable def tu (most:Int):List PGaz→Int→Bool
  | [],_=>true
  | g::r,n=>match vJ g with | true=>false | false=>match lI most g.acts n with | none=>false | some m=>tu most r m
noncomputable def Mm (gs:List PGaz) (most:Int):Bool:=match ar 8 (Int.ofNat gs.length) with | true=>false | false=>tu most gs 0
theorem Tc (gs:List PGaz) (most:Int) (hf:pa gs) (m1:0≤most) (m2:most≤2 ^ 20):kP 31 [.ls (gs.map ao),iV most] (.bool (Mm gs most)):=by
  obtain ⟨f0,f1⟩:=hf
  have fa : ∀ g,g∈gs→∀ a,a∈g.acts→a.items.length<2 ^ 60:=fun g hg a ha=>((f1 g hg).2 a ha).1
  have fb : ∀ g,g∈gs→g.acts.length<2 ^ 60:=fun g hg=>(f1 g hg).1
  have rr0 b' (h:(Mm gs most)=b':=by simp only [Mm,tu,vJ,lI,Aw,aS,ax,bS, *]):=h;exact bg Tryz.func31<|Kl 2 11 (ln ao gs)<|Ka 0 8 (Int.ofNat gs.length) (fun _ _=>Ky 0<|rr0 false) fun _ _=>Mg 1<|Ng ao gs (0:Int) [0,1,5,6] (fun b _ c=>([aW<|gs.map ao,iV most,iV c,nV b],[])) (fun b c=>(0:Int)≤c∧c≤most∧tu most gs (0:Int)=tu most b c) (by (refine ⟨by omega,by omega,?_⟩;first | rfl | (simp only [tu,vJ,lI,aS,ax,bS, *]))) (fun _ _ _ _ _ _ b _=>Kl 2 15 (ln ao gs)<|Kh 0 b<|Ky 0<|rr0 true) fun b _ c d _ e f i j k _ l m=>Kl 2 15 (ln ao gs)<|Kt 0 k<|Kx 1 l<|Kl 2 24 (ln ay e.acts)<|Ka 1 8 (Int.ofNat e.acts.length) (fun b _=>Mt b<|Mt b<|Mt b<|Mt b<|Mt b<|Mt b<|MV b<|Ky 1<|rr0 false) fun k _=>Kh 0 k<|Kh 0 k<|Mx l<|Mh k<|Kh 0 k<|Kh 0 k<|Kh 0 k<|Kw 0 k<|Mb (ar 60<|Int.ofNat<|List.length e.prior) (fun b=>have :=ap b;Ky 0<|rr0 false) fun k=>have :=aF k;Mg 0<|Ng ay e.acts c [0,1,5,6,7] (fun c _ d=>([aW<|gs.map ao,iV most,iV d,nV b,nV c],[])) (fun b d=>(0:Int)≤d∧d≤most∧lI most e.acts c=lI most b d) (by (exact ⟨m.1,m.2.1,rfl⟩)) (fun _ _ c _ _ _ d _=>Kx 2 l<|Kl 2 41 (ln ay e.acts)<|Kh 0 d<|Kl 1 18 (dB b)<|Kf 0<|i c<|by (refine ⟨by omega,by omega,?_⟩;first | rfl | (simp only [tu,vJ,lI,aS,ax,bS, *]))) fun f _ i k _ m n o p q _ r _=>have :=fa e (aM d j) m<|aM k p;have :=fb e<|aM d j;Kx 2 l<|Kl 2 41 (ln ay e.acts)<|Kt 0 q<|Kx 1 l<|Kx 2 r<|Kl 6 56 (ln MF m.items)<|Kl 0 57 (Le.wr (x:=i+Int.ofNat m.items.length) eT)<|Ka 4 most (i+Int.ofNat m.items.length) (fun b _=>Mt b<|Mt b<|Mt b<|MV b<|Ky 3<|rr0 false) fun l _=>Kh 0 l<|Kh 0 l<|Kh 0 l<|Kw 0 l<|Ka 0 100 (Int.ofNat<|List.length m.title) (fun b _=>Mt b<|Mt b<|Mt b<|Mt b<|MV b<|Ky 1<|rr0 false) fun l _=>Kh 0 l<|Kh 0 l<|Kh 0 l<|Kh 0 l<|Kw 0 l<|Mb (ar 60<|Int.ofNat<|List.length m.start.event) (fun b=>have :=ap b;Ky 0<|rr0 false) fun l=>have :=aF l;K1 0 (.frz 0 [0,1,5,6,7,8,9]) ti<|rB MF m.items [0,1,5,6,7,8,9] (fun c _=>([aW<|gs.map ao,iV most,iV<|i+Int.ofNat m.items.length,nV b,nV f,AV.pptr [aw [iV m.number,aj m.title,iV m.day,iV m.start.kind,iV m.start.day,aj m.start.event,aW<|m.items.map MF]] 0 0,nV c],[])) (fun b=>m.items.all mF=b.all mF) (by rfl) (fun _ _ _ _ _ b _=>Kl 3 77 (ln MF m.items)<|Kh 0 b<|Kl 1 44 (dB f)<|Kf 0<|o (i+Int.ofNat m.items.length)<|by (refine ⟨by (simp only [oN] at *;omega),by assumption,?_⟩;simp only [lI,Aw,aS,ax,bS, *])) fun b _ c _ e f i l n _ o _=>have o:=o.trans<|congrArg some<|eJ e;Kl 3 77 (ln MF m.items)<|Kt 0 n<|Kx 2 o<|Kp 0 (Tb e<|by first | exact ((f1 _ (aM d j)).2 _ (aM k p)).2 _ (aM c l))<|Kn 0 (mF e) (fun _=>Kf 0<|b9<|rr0 false) fun _=>Kl 1 80 (dB b)<|Kf 0<|i<|by simp only [aS,ax,bS, *] at *
noncomputable def Mk (gs:List PGaz) (p:aO):Bool:=Mm gs 24 && ax (ar 60 (Int.ofNat p.length))
theorem Ta (gs:List PGaz) (p:aO) (hf:pa gs):kP 10 [.ls (gs.map ao), .str p] (.bool (Mk gs p)):=by
  have rr0 b' (h:(Mk gs p)=b':=by simp only [Mk,aS,ax,bS, *]):=h;exact bg Tryz.func10<|Kp 1 (Tc gs 24 hf oA oA)<|Kb 0 (Mm gs 24) (fun a=>Kt 0 a<|Kt 0 a<|Ku 0 a<|Kf 0<|b9<|rr0<|ax<|ar 60<|Int.ofNat<|List.length p) fun a=>Mh a<|Mh a<|My a<|Ky 0<|rr0 false
theorem Y8 (l:aO) (g:Nat) (p:UInt8→Bool) (hp : ∀ s,s∈l→kP g [.int .u8 (.ofNat s.toNat)] (.bool (p s))) (hl:l.length<2 ^ 40):kP 374 [.ls (l.map nq), .func (.func g) [] []] (iV (cS p l 0)):=by
  have rr0 b' (h:(cS p l 0)=b':=by first | exact j9 zd0 hr0 hj0 ‹_› | exact hj0):=h;exact bg Tryz.func374<|Kl 2 7 (ln nq l)<|Mg 0<|rB nq l [0,1,7,8] (fun a _=>([aW<|l.map nq,bZ (bQ g) [] [],nV<|List.length l,nV a],[])) (fun a=>cS p l (0:Nat)=cS p a (List.length l - a.length)) sA (fun _ _ zd0 _ hr0 a hj0=>Kh 0 a<|Kf 0<|li<|rr0 (-1)) fun a _ zd0 _ b c d hr0 e _ f hj0=>Kt 0 e<|Kx 4 f<|Kp 0 (hp b<|by exact aM zd0 hr0)<|Mb (p b) (fun _=>Kf 1<|li<|rr0<|Int.ofNat a) fun _=>Kl 0 18 (dB a)<|Kf 0<|d<|by exact ig zd0 hr0 hj0 (by omega)
theorem ZK (l:aO) (g:Nat) (p:UInt8→Bool) (hp : ∀ s,s∈l→kP g [.int .u8 (.ofNat s.toNat)] (.bool (p s))) (hl:l.length<2 ^ 40):kP 353 [.ls (l.map nq), .func (.func g) [] []] (.bool (l.any p)):=by
  have h:=Y8 l g p hp hl
  have rr0 b' (h:(List.any l p)=b':=by (rw [jj];simp only [aS,ax,bS,pq])):=h;exact bg Tryz.func353<|Kp 2 h<|Kf 1<|b9<|rr0<|ax<|ar (cS p l 0) 0
theorem Np (c:UInt8):kP 352 [.int .u8 (.ofNat c.toNat)] (.bool (ax (Pn 33 126 c))):=by
  have rr0 b' (h:(ax (Pn 33 126 c))=b':=by (simp only [Pn,aS,ax,bS,pq, *])):=h;exact bg Tryz.func352<|Kb 3 (ar (Int.ofNat c.toNat) 33) (fun a=>Mt a<|MV a<|Ky 0<|rr0 true) fun a=>Kh 0 a<|Kw 0 a<|Kf 0<|b9<|rr0<|ar 126<|Int.ofNat c.toNat
theorem Ri (s:aO) (hs:s.length≤2 ^ 39):kP 306 [.str s] (.bool (rv s)):=by
  have h:=ZK s 352 _ (fun c _=>Np c) (by omega)
  have rr0 b' (h:(rv s)=b':=by first | (simp only [rv,aS,ax,bS, *];done) | (rw [rv,Qw,List.all_eq_not_any_not];simp only [DY,aS,ax,bS, *] at *)):=h;let q:=List.map nq s;exact bg Tryz.func306<|Kn 4 (dR s (ByteArray.mk #[]).data.toList) (fun a=>Kt 0 (cQ a)<|Kt 0 (cQ a)<|Ku 0 (cQ a)<|Kn 0 (ar 24<|Int.ofNat<|List.length s) (fun a=>Kt 0 (cQ a)<|Mv (TI (s:=s) (H:=aa []) (oA:(s).length≤2 ^ 40))<|Mt (cQ a)<|Kt 0 (cQ a)<|Mp (aN.onArgs (.cons (fg q _<|aX Ui s)<|lc .nil) h:kP 353 [kO q false,bZ (bQ 352) [] []] _)<|Mt (cQ a)<|Ku 0 (cQ a)<|Kf 0<|b9<|rr0<|ax<|List.any s fun a=>ax<|Pn 33 126 a) fun a=>Mh (bN a)<|Mh (bN a)<|Mh (bN a)<|Mh (bN a)<|My (bN a)<|Ky 0<|rr0 false) fun a=>Mh (bN a)<|Mh (bN a)<|My (bN a)<|Ky 2<|rr0 false
theorem Y7 (l:List aO) (g:Nat) (p:aO→Bool) (hp : ∀ s,s∈l→kP g [.str s] (.bool (p s))) (hl:l.length<2 ^ 40):kP 351 [.ls (l.map mM), .func (.func g) [] []] (iV (cS p l 0)):=by
  have rr0 b' (h:(cS p l 0)=b':=by first | exact j9 zd0 hr0 hj0 ‹_› | exact hj0):=h;exact bg Tryz.func351<|Kl 2 7 (ln mM l)<|Mg 0<|rB mM l [0,1,7,8] (fun a _=>([aW<|l.map mM,bZ (bQ g) [] [],nV l.length,nV a],[])) (fun a=>cS p l (0:Nat)=cS p a (l.length - a.length)) sA (fun _ _ zd0 _ hr0 a hj0=>Kh 0 a<|Kf 0<|li<|rr0 (-1)) fun a _ zd0 _ b c d hr0 e _ f hj0=>Kt 0 e<|Kx 4 f<|Kp 0 (hp b<|by exact aM zd0 hr0)<|Mb (p b) (fun _=>Kf 1<|li<|rr0<|Int.ofNat a) fun _=>Kl 0 18 (dB a)<|Kf 0<|d<|by exact ig zd0 hr0 hj0 (by omega)
theorem ZJ (l:List aO) (g:Nat) (p:aO→Bool) (hp : ∀ s,s∈l→kP g [.str s] (.bool (p s))) (hl:l.length<2 ^ 40):kP 304 [.ls (l.map mM), .func (.func g) [] []] (.bool (l.any p)):=by
  have h:=Y7 l g p hp hl
  have rr0 b' (h:(l.any p)=b':=by (rw [jj];simp only [aS,ax,bS,pq])):=h;exact bg Tryz.func304<|Kp 2 h<|Kf 1<|b9<|rr0<|ax<|ar (cS p l 0) 0
theorem LZ (s:aO) (hs:s.length≤2 ^ 39):kP 305 [.str s] (.bool (ax (rv s))):=by
  exact bg Tryz.func305<|Kp 1 (Ri s hs)<|Kf 1<|bV<|eu<|ax<|rv s
theorem Jl (l:List aO) (hl:l.length<2 ^ 40) (hs : ∀ s,s∈l→s.length≤2 ^ 39):kP 245 [.ls (l.map mM)] (.bool (qQ l)):=by
  have h:=ZJ l 305 _ (fun s m=>LZ s (hs s m)) hl
  have rr0 b' (h:(qQ l)=b':=by first | (simp only [qQ,aS,ax,bS, *];done) | (rw [qQ,List.all_eq_not_any_not];simp only [aS,ax,bS, *])):=h;exact bg Tryz.func245<|Kl 2 4 (ln mM l)<|Kn 1 (ar 256<|Int.ofNat l.length) (fun a=>Kt 0 (cQ a)<|Mp h<|Mt (cQ a)<|Ku 0 (cQ a)<|Kf 0<|b9<|rr0<|ax<|l.any fun a=>ax<|rv a) fun a=>Mh (bN a)<|Mh (bN a)<|My (bN a)<|Ky 0<|rr0 false
theorem Oi (r:Int):kP 308 [.int .i32 r] (.bool (ar r 48 || ar 57 r)):=by
  have rr0 b' (h:(ar r 48 || ar 57 r)=b':=by (simp only [aS,ax,bS, *])):=h;exact bg Tryz.func308<|Kb 3 (ar r 48) (fun a=>Mt a<|MV a<|Ky 0<|rr0 true) fun a=>Kh 0 a<|Kw 0 a<|Kf 0<|b9<|rr0<|ar 57 r
theorem Sv (r:Int):kP 247 [.int .i32 r] (.bool (ar r 65 || ar 90 r)):=by
  have rr0 b' (h:(ar r 65 || ar 90 r)=b':=by (simp only [aS,ax,bS, *])):=h;exact bg Tryz.func247<|Kb 3 (ar r 65) (fun a=>Mt a<|MV a<|Ky 0<|rr0 true) fun a=>Kh 0 a<|Kw 0 a<|Kf 0<|b9<|rr0<|ar 90 r
theorem G7 (s:PStep):kP 176 [az s] (.bool (ab s.kind 0 && dR s.label [])):=by
  have rr0 b' (h:(ab s.kind 0 && dR s.label [])=b':=by (simp only [aS,ax,bS, *];first | done | rfl)):=h;exact bg Tryz.func176<|Kb 5 (ab s.kind 0) (fun a=>Kt 0 a<|Kt 0 a<|Ku 0 a<|Kf 0<|b9<|rr0<|dR s.label (ByteArray.mk #[]).data.toList) fun a=>Mh a<|Mh a<|My a<|Ky 0<|rr0 false
theorem uc (n a b:Int):kP 172 [iV n,iV a,iV b] (.bool (ax (ar n a) && ax (ar b n))):=by
  have rr0 b' (h:(ax (ar n a) && ax (ar b n))=b':=by (simp only [aS,ax,bS, *])):=h;exact bg Tryz.func172<|Kn 4 (ar n a) (fun c=>Kt 0 (cQ c)<|Kt 0 (cQ c)<|Ku 0 (cQ c)<|Kf 0<|b9<|rr0<|ax<|ar b n) fun c=>Mh (bN c)<|Mh (bN c)<|My (bN c)<|Ky 0<|rr0 false
theorem Ps (s:aO):kP 307 [.str s, .func (.func 308) [] []] (iV (bif Nat.beq (eY kJ s) s.length then -1 else Int.ofNat (eY kJ s))):=
  zz iN (Go.Proofs.enters_of Go.Proofs.Tryz.lidxf.f15 (by kernel_rfl) rfl) (Go.Proofs.enters_of Tryz.func308 (by kernel_rfl) rfl)
    (fun s w hp=>Go.Proofs.Any.strings_IndexFunc_grows Go.Proofs.Tryz.lidxf 308 #[] (Go.Proofs.enters_of Tryz.func308 (by kernel_rfl) rfl) _ s w hp) Oi (fun _=>rfl) (GF (lo:=48) (hi:=57) (by omega)) s
theorem Pt (s:aO) (h:By (Nat.beq (eY kJ s) s.length) true):kP 307 [.str s, .func (.func 308) [] []] (iV (-1)):=by
  have:=Ps s
  simp_all
theorem S6 (s:aO) (h:By (Nat.beq (eY kJ s) s.length) false):kP 307 [.str s, .func (.func 308) [] []] (nV (eY kJ s)):=by
  have:=Ps s
  grind
theorem Yp (s:aO):kP 248 [.str s, .func (.func 247) [] []] (.bool (ax (s.all Wq))):=
  uX iN (Go.Proofs.enters_of Go.Proofs.Tryz.lconf.f17 (by kernel_rfl) rfl) (Go.Proofs.enters_of Tryz.func247 (by kernel_rfl) rfl)
    (fun s w hp=>Go.Proofs.Any.strings_ContainsFunc_grows Go.Proofs.Tryz.lconf 247 #[] (Go.Proofs.enters_of Tryz.func247 (by kernel_rfl) rfl) _ s w hp) Sv (fun _=>rfl) (GF (lo:=65) (hi:=90) (by omega)) s
theorem Lo (s:aO) (hs:s.length≤2 ^ 39):kP 246 [.str s] (.tuple [.str (s.take (eY kJ s)), .str (s.drop (eY kJ s))]):=by
  have hl:=Jg (p:=kJ) (s:=s)
  have rr0 b' (h:(s.take (eY kJ s))=b':=by (rw [pz h0];simp)):=h;have rr1 b' (h:(s.drop (eY kJ s))=b':=by (rw [pz h0];simp)):=h;let q:=AHeap.mk 1000000 Tr.nil;exact bg Tryz.func246<|Ks 2 ((eY kJ s).beq<|List.length s) (fun h0=>Mp (Pt s h0)<|Kf 6<|cn<|.cons (Le.str<|rr0 s)<|.cons (Le.str<|rr1 []) .nil) fun h0=>Mp (S6 s h0)<|Kv 5 (UO (s:=s) (n:=eY kJ s) (k:=IntKind.i64) (H:=q) oA)<|Kv 1 (UN (s:=s) (l:=eY kJ s) (k:=IntKind.i64) (H:=q) oA)<|Kf 1<|bV<|cK [aj<|s.take<|eY kJ s,aj<|s.drop<|eY kJ s]
theorem tw (s:aO) (hs:s.length≤2 ^ 39):kP 167 [.str s] (.bool (j7 s)):=by
  have hd:(s.drop (eY kJ s)).length≤2 ^ 39:=by grind
  have rr0 b' (h:(j7 s)=b':=by first | (simp only [j7,aS,ax,bS,pq, *];done) | (simp only [j7,aS,ax,bS,pq, *];rfl) | (unfold j7;simp only [h0,h1,h2];rfl)):=h;exact bg Tryz.func167<|Kp 1 (Lo s hs)<|Kd 9 (Int.ofNat (s.take<|eY kJ s).length) 1 (fun h0 _=>Kt 0 (cQ h0)<|Kt 0 (cQ h0)<|Ku 0 (cQ h0)<|Kd 0 4 (Int.ofNat (s.take<|eY kJ s).length) (fun h1 _=>Kt 0 (cQ h1)<|M1 (.chr<|gD (s.take<|eY kJ s) 0) (yB (gR:0<(s.take (eY kJ s)).length))<|Mt (cQ h1)<|Ku 0 (cQ h1)<|Kc 0 (Int.ofNat (gD (s.take<|eY kJ s) 0).toNat) 48 (fun h2 _=>Kt 0 (cQ h2)<|Kt 0 (cQ h2)<|Ku 0 (cQ h2)<|Kd 0 3 (Int.ofNat (s.drop<|eY kJ s).length) (fun a _=>Kt 0 (cQ a)<|Kt 0 (cQ a)<|Mp (Yp<|s.drop<|eY kJ s)<|Mt (cQ a)<|Ku 0 (cQ a)<|Kf 0<|b9<|rr0<|ax<|ax<|(s.drop<|eY kJ s).all Wq) fun a _=>Mh (bN a)<|Mh (bN a)<|Mh (bN a)<|My (bN a)<|Ky 0<|rr0 false) fun h2 _=>Mh (bN h2)<|Mh (bN h2)<|My (bN h2)<|Ky 2<|rr0 false) fun h1 _=>Mh (bN h1)<|Mh (bN h1)<|My (bN h1)<|Ky 4<|rr0 false) fun h0 _=>Mh (bN h0)<|Mh (bN h0)<|My (bN h0)<|Ky 6<|rr0 false
theorem uv (p:List PStep) (hl:p.length<2 ^ 40) (hs : ∀ s,s∈p→s.label.length≤2 ^ 39):kP 81 [.ls (p.map az)] (.bool (kf p)):=by
  have rr0 b' (h:(kf p)=b':=by first | (rw [kf,hj0,T7];rfl) | (rw [kf,DR zd0 hr0 hj0];simp only [m0,sI,‹ab (Int.ofNat zi0) 0=_›,cond_true,cond_false];simp only [DY,aS,ax,bS, *];first | done | rfl)):=h;exact bg Tryz.func81<|Kl 2 6 (ln az p)<|Mg 0<|rB az p [0,5,6,7] (fun a _=>([aW<|p.map az,aW<|p.map az,nV p.length,nV a],[])) (fun a=>NV p=G6 p a) (by (exact NK)) (fun zi0 _ zd0 _ hr0 a hj0=>Kh 0 a<|Kl 1 34 (ln az p)<|Kf 1<|b9<|rr0<|ax<|ar 9<|Int.ofNat p.length) fun zi0 _ zd0 _ a b c hr0 d _ e hj0=>Kt 0 d<|Kx 0 e<|Kj 6 (Int.ofNat zi0) 0 (fun d _=>Kt 0 d<|Mp (G7 a)<|MV d<|Mb (ab a.kind 0 && dR a.label []) (fun _=>Kl 0 32 (dB zi0)<|K1 0 (.frz 0 [0,5,6,7]) ti<|Mf<|c<|by (rw [DR zd0 hr0 hj0];simp only [m0,sI,‹ab (Int.ofNat zi0) 0=_›,cond_true,cond_false];simp only [DY,aS,ax,bS, *];first | done | rfl)) fun _=>Kd 3 0 a.kind (fun a _=>Mt (cQ a)<|Mt (cQ a)<|MV (cQ a)<|Ky 3<|rr0 false) fun d _=>Kh 0 (bN d)<|Kh 0 (bN d)<|Kw 0 (bN d)<|Ka 0 7 a.kind (fun a _=>Mt a<|Mt a<|Mt a<|MV a<|Ky 1<|rr0 false) fun d _=>Kh 0 d<|Kh 0 d<|Mp (tw a.label<|by exact hs _ (aM zd0 hr0))<|Mh d<|Kw 0 d<|Mn (j7 a.label) (fun _=>Kf 0<|b9<|rr0 false) fun _=>Kl 0 32 (dB zi0)<|K1 0 (.frz 0 [0,5,6,7]) ti<|Mf<|c<|by (rw [DR zd0 hr0 hj0];simp only [m0,sI,‹ab (Int.ofNat zi0) 0=_›,cond_true,cond_false];simp only [DY,aS,ax,bS, *];first | done | rfl)) fun d _=>Mh d<|My d<|Kd 4 0 a.kind (fun a _=>Mt (cQ a)<|Mt (cQ a)<|MV (cQ a)<|Ky 3<|rr0 false) fun d _=>Kh 0 (bN d)<|Kh 0 (bN d)<|Kw 0 (bN d)<|Ka 0 7 a.kind (fun a _=>Mt a<|Mt a<|Mt a<|MV a<|Ky 1<|rr0 false) fun d _=>Kh 0 d<|Kh 0 d<|Mp (tw a.label<|by exact hs _ (aM zd0 hr0))<|Mh d<|Kw 0 d<|Mn (j7 a.label) (fun _=>Kf 0<|b9<|rr0 false) fun _=>Kl 0 32 (dB zi0)<|K1 0 (.frz 0 [0,5,6,7]) ti<|Mf<|c<|by (rw [DR zd0 hr0 hj0];simp only [m0,sI,‹ab (Int.ofNat zi0) 0=_›,cond_true,cond_false];simp only [DY,aS,ax,bS, *];first | done | rfl)
theorem S5 (l:List Int) (v:Int) (hl:l.length<2 ^ 40):kP 340 [.ls (l.map bd),iV v] (iV (cS (ab v) l 0)):=by
  have rr0 b' (h:(cS (ab v) l 0)=b':=by first | exact j9 zd0 hr0 hj0 ‹_› | exact hj0):=h;exact bg Tryz.func340<|Kl 2 7 (ln bd l)<|Mg 0<|rB bd l [0,1,7,8] (fun a _=>([aW<|l.map bd,iV v,nV l.length,nV a],[])) (fun a=>cS (ab v) l (0:Nat)=cS (ab v) a (l.length - a.length)) sA (fun _ _ zd0 _ hr0 a hj0=>Kh 0 a<|Kf 0<|li<|rr0 (-1)) fun a _ zd0 _ b c d hr0 e _ f hj0=>Kt 0 e<|Kx 4 f<|Kj 1 v b (fun _ _=>Kf 1<|li<|rr0<|Int.ofNat a) fun _ _=>Kl 0 18 (dB a)<|Kf 0<|d<|by exact ig zd0 hr0 hj0 (by omega)
theorem rQ (l:List Int) (v:Int) (hl:l.length<2 ^ 40):kP 294 [.ls (l.map bd),iV v] (.bool (l.any (ab v))):=by
  have h:=S5 l v hl
  have rr0 b' (h:(l.any (ab v))=b':=by (rw [jj];simp only [aS,ax,bS,pq])):=h;exact bg Tryz.func294<|Kp 2 h<|Kf 1<|b9<|rr0<|ax<|ar (cS (ab v) l 0) 0
theorem Pr (v:Int):kP 340 [.nils,iV v] (iV (-1)):=by
  let q:= [ak,iV v,iV 0,iV 0];exact bg Tryz.func340<|Mg 3<|X4 [0,1,7,8] (q,[]) True 0 ti fun _ _=>Kf 2<|bV<|iV (-1)
theorem GC (v:Int):kP 294 [.nils,iV v] (.bool false):=by
  have h:=Pr v
  exact bg Tryz.func294<|Kp 2 h<|Kf 1<|bV<|eu false
theorem Y2:kP 369 [iV 0] (.str (c8 0)):=by
  exact wk Tryz.func369 (.go 11 .fin)<|bV<|aj [98,111,111,107]
theorem Y1:kP 369 [iV 1] (.str (c8 1)):=by
  exact wk Tryz.func369 (.go 11 .fin)<|bV<|aj [112,97,114,116]
theorem Y0:kP 369 [iV 2] (.str (c8 2)):=by
  exact wk Tryz.func369 (.go 11 .fin)<|bV<|aj [115,101,99,116,105,111,110]
theorem YT:kP 369 [iV 3] (.str (c8 3)):=by
  exact wk Tryz.func369 (.go 11 .fin)<|bV<|aj [112,97,114,97,103,114,97,112,104]
theorem YS:kP 369 [iV 4] (.str (c8 4)):=by
  exact wk Tryz.func369 (.go 11 .fin)<|bV<|aj [116,97,98,108,101]
theorem YR:kP 369 [iV 5] (.str (c8 5)):=by
  exact wk Tryz.func369 (.go 11 .fin)<|bV<|aj [114,111,119]
theorem YP:kP 369 [iV 6] (.str (c8 6)):=by
  exact wk Tryz.func369 (.go 11 .fin)<|bV<|aj [99,101,108,108]
theorem YO:kP 369 [iV 7] (.str (c8 7)):=by
  exact wk Tryz.func369 (.go 11 .fin)<|bV<|aj [110,111,116,101]
theorem YN (k:Int) (h:k<0∨7<k):kP 369 [iV k] (.str (c8 k)):=by
  rw [H8 h]
  have c:ar k 0=true∨(ar k 0=false∧ar k 8=false):=by
    grind [nJ, lL]
  rcases c with c | ⟨c,d⟩
  · exact bg Tryz.func369<|Kt 3 c<|Mt c<|MV c<|Kf 1<|bV<|aj []
  · exact bg Tryz.func369<|Kh 3 c<|Kh 0 c<|Kw 0 c<|Mt (cQ d)<|Kf 0<|bV<|aj []
theorem wW (k:Int):kP 369 [iV k] (.str (c8 k)):=by
  by_cases h:k<0∨7<k
  · grind [YN]
  · grind [Y2, Y1, Y0, YT, YS, YR, YP, YO]
theorem ZV (p k:Int) (h:p<0∨7<p):kP 223 [iV p,iV k] (.bool (jW p k)):=by
  unfold jW
  rw [Hb h]
  have c:ar p 0=true∨(ar p 0=false∧ar p 8=false):=by
    grind [nJ, lL]
  rcases c with c | ⟨c,d⟩
  · exact bg Tryz.func223<|Kh 3 (bN c)<|Mh (bN c)<|My (bN c)<|Kf 2<|bV<|eu false
  · exact bg Tryz.func223<|Kt 3 (cQ c)<|Kt 0 (cQ c)<|Ku 0 (cQ c)<|Kh 0 d<|Mh d<|Mh d<|Mh d<|Mh d<|My d<|Kf 0<|bV<|eu false
theorem Zw (k:Int):kP 223 [iV 0,iV k] (.bool (jW 0 k)):=by
  have h:=rQ [1,2] k (by grind)
  let q:= [iV 1,iV 2];exact bg Tryz.func223<|Kp 11 (aN.onArgs (.cons (fg q _<|by rfl)<|lc .nil) h:kP 294 [kO q false,iV k] _)<|Kf 1<|bV<|eu<|[1,2].any<|ab k
theorem Zk (k:Int):kP 223 [iV 1,iV k] (.bool (jW 1 k)):=by
  have h:=rQ [2] k (by grind)
  let q:= [iV 2];exact bg Tryz.func223<|Kp 11 (aN.onArgs (.cons (fg q _<|by rfl)<|lc .nil) h:kP 294 [kO q false,iV k] _)<|Kf 1<|bV<|eu<|[2].any<|ab k
theorem Zj (k:Int):kP 223 [iV 2,iV k] (.bool (jW 2 k)):=by
  have h:=rQ [3,4,7] k (by grind)
  let q:= [iV 3,iV 4,iV 7];exact bg Tryz.func223<|Kp 11 (aN.onArgs (.cons (fg q _<|by rfl)<|lc .nil) h:kP 294 [kO q false,iV k] _)<|Kf 1<|bV<|eu<|[3,4,7].any<|ab k
theorem Zx (k:Int):kP 223 [iV 3,iV k] (.bool (jW 3 k)):=by
  have h:=rQ [3,4,7] k (by grind)
  let q:= [iV 3,iV 4,iV 7];exact bg Tryz.func223<|Kp 11 (aN.onArgs (.cons (fg q _<|by rfl)<|lc .nil) h:kP 294 [kO q false,iV k] _)<|Kf 1<|bV<|eu<|[3,4,7].any<|ab k
theorem Zz (k:Int):kP 223 [iV 4,iV k] (.bool (jW 4 k)):=by
  have h:=rQ [5] k (by grind)
  let q:= [iV 5];exact bg Tryz.func223<|Kp 11 (aN.onArgs (.cons (fg q _<|by rfl)<|lc .nil) h:kP 294 [kO q false,iV k] _)<|Kf 1<|bV<|eu<|[5].any<|ab k
theorem Zq (k:Int):kP 223 [iV 5,iV k] (.bool (jW 5 k)):=by
  have h:=rQ [6] k (by grind)
  let q:= [iV 6];exact bg Tryz.func223<|Kp 11 (aN.onArgs (.cons (fg q _<|by rfl)<|lc .nil) h:kP 294 [kO q false,iV k] _)<|Kf 1<|bV<|eu<|[6].any<|ab k
theorem ZU (k:Int):kP 223 [iV 6,iV k] (.bool (jW 6 k)):=by
  have h:=GC k
  exact bg Tryz.func223<|Kp 11 h<|Kf 1<|bV<|eu false
theorem ZY (k:Int):kP 223 [iV 7,iV k] (.bool (jW 7 k)):=by
  have h:=GC k
  exact bg Tryz.func223<|Kp 11 h<|Kf 1<|bV<|eu false
theorem yG (p k:Int):kP 223 [iV p,iV k] (.bool (jW p k)):=by
  by_cases h:p<0∨7<p
  · grind [ZV]
  · grind [Zw, Zk, Zj, Zx, Zz, Zq, ZU, ZY]
theorem aE {n b m:Nat} (h1:n≤m) (h2:m≤2 ^ 40) (h3:m * b≤2 ^ 40):small n b=true:=by
  unfold small
  have h4:n * b≤m * b:=ef b h1
  grind [Nat.ble_eq_true_of_le]
noncomputable abbrev vD (u:TUnit):AObj:= .row 8 false 0 [eU u]
def Hk (p:PId) (u:TUnit) (x0:Nat × List TUnit × Unit):Prop:=(u.kids).drop x0.1=x0.2.1∧cY p u.kids=cY p x0.2.1
noncomputable def xP (p:PId) (u:TUnit) (x0:Nat × List TUnit × Unit):List AV × List AObj:=([AV.ptr 0 0 0 0,AV.ptr 1 0 0 0,AV.ls (u.kids.map aV),nV u.kids.length,nV x0.1], [AObj.row 8 false 0 [AV.agg [iV u.act,iV u.item,iV u.n,iV u.kind,AV.str u.label,AV.ls (u.head.map aQ),AV.ls (u.words.map aQ),AV.ls (u.kids.map aV)]],AObj.row 3 false 0 [AV.agg [iV p.a,iV p.i,iV p.n]]])
theorem Eg (p:PId) : ∀ (u:TUnit),nU u≤2 ^ 20→(cX p u=false→kP 86 [eU u,aY p] .nils)∧(cX p u=true→kP 86 [eU u,aY p] (.ps ((au p u).map aV) false)):=by
  refine TUnit.ind fun u ih hn=>?_
  have ihn : ∀ k,k∈u.kids→By (cX p k) false→kP 86 [eU k,aY p] .nils:=fun k hk h=>(ih k hk (bI (sn (hJ hk)) hn)).1 h
  have ihy : ∀ k,k∈u.kids→By (cX p k) true→kP 86 [eU k,aY p] (.ps ((au p k).map aV) false):=fun k hk h=>(ih k hk (bI (sn (hJ hk)) hn)).2 h
  have hkl:=bw u
  refine ⟨fun hs=>?_,fun hs=>?_⟩
  · let q:= [aw [iV u.act,iV u.item,iV u.n,iV u.kind,aj u.label,aW (u.head.map aQ),aW (u.words.map aQ),aW (u.kids.map aV)]];let q3:= [iV p.a,iV p.i,iV p.n];exact bg Tryz.func86<|Kv 5 (lY ((Tryz.prog).underlying 27) u.act u.item u.n p.a p.i p.n<|aa [aZ 8 false 0 q,aZ 3 false 0 [aw q3]])<|Mb (ab u.act p.a && (ab u.item p.i && ab u.n p.n)) (fun _=>Kf 2<|fK (by exact absurd (hs.symm.trans (Dy ‹_›)) (by grind):(AV.nils)=(AV.ps q true))) fun _=>Kl 2 16 (ln aV u.kids)<|Mg 0<|Ut (0:Nat) u.kids () [2,3,15,16,17] (fun a _ _=>([bJ 0 0 0 0,bJ 1 0 0 0,aW<|u.kids.map aV,nV u.kids.length,nV a],[aZ 8 false 0 [aw [iV u.act,iV u.item,iV u.n,iV u.kind,aj u.label,aW<|u.head.map aQ,aW<|u.words.map aQ,aW<|u.kids.map aV]],aZ 3 false 0 [aw [iV p.a,iV p.i,iV p.n]]])) (fun a b _=>(u.kids).drop a=b∧cY p u.kids=cY p b) (fun _ a _=>a.length) (et rfl<|by rfl) fun a b c d e=>Mc b (fun a=>have b:=gn d.1 a;have :=je (J:=fun a _=>cY p u.kids=cY p a) (a:=c) a d.2;Kh 0 b<|Kf 0<|bV ak) fun b f g=>let i:=List.map aV<|[u]++au p b;have j:=gp d.1 g;have :=ap j;have l:=(gm (enc:=aV) d.1 g).trans<|congrArg some<|aH b;have c:=cP (J:=fun a _=>cY p u.kids=cY p a) (a:=c) g d.2;have :nU b<nU u:=hJ<|aM d.1 g;have :(au p b).length≤nU b:=lP b;Kt 0 j<|Mx l<|Ks 4 (cX p b) (fun a=>Mp (ihy b (by exact aM d.1 g) a)<|Mg 6<|M2 .apl (et (by simp_all [kN]:List.map aV (au p b)≠ [])<|gk (sz:=8) (f:=aV) (fun _=>by (rw [aH];rfl))<|au p b) (et (by (refine aE (m:=2 ^ 21) ?_ ?_ ?_ <;> (try simp only [lM,lC,lN]) <;> (have:=lP (p:=p) b;omega)):small (([AV.agg [iV u.act,iV u.item,iV u.n,iV u.kind,AV.str u.label,AV.ls (u.head.map aQ),AV.ls (u.words.map aQ),AV.ls (u.kids.map aV)]]).length+((au p b).map aV).length) 120=true) rt)<|M1 (.obj 3<|aZ 8 true 0 i) (congrArg (aZ 8 true 0) (by (simp only [pu,ee,vg,aH,eJ] <;> rfl):[AV.agg [iV u.act,iV u.item,iV u.n,iV u.kind,AV.str u.label,AV.ls (u.head.map aQ),AV.ls (u.words.map aQ),AV.ls (u.kids.map aV)]]++List.map aV (au p b)=List.map aV ([u]++au p b)))<|Mg 0<|M2 (.fsl 0 [] 4 i) ti (cH (aU 0) (tA aV ([u]++au p b) (q++List.map aV (au p b)).length (sA:([u]++au p b).length=([AV.agg [iV u.act,iV u.item,iV u.n,iV u.kind,AV.str u.label,AV.ls (u.head.map aQ),AV.ls (u.words.map aQ),AV.ls (u.kids.map aV)]]++List.map aV (au p b)).length))<|aX gM<|[u]++au p b)<|Ml 4 (fg i false<|aX gM<|[u]++au p b)<|Mf<|fK (by exact absurd (hs.symm.trans (TZ (by assumption) c (by omega))) (by grind):(AV.nils)=(AV.ls i))) fun c=>Mp (ihn b (by exact aM d.1 g) c)<|Kl 4 30 (dB a)<|K1 0 (.frz 2 [2,3,15,16,17]) (cH rt rt ti)<|Mf<|e (a+1) f () (et (bR d.1 g)<|by grind [iG])<|fI g
  · have rr0 : ∀ b',(h:((au p u).map aV)=b':=by first | rfl | exact absurd (hs.symm.trans (FN (by assumption) hj0)) (by decide) | (rw [sC (by assumption),ee,aH];rfl) | (rw [I9 (by assumption) hj0 (by assumption)];rfl))→((au p u).map aV)=b':=(fun _ h=>h);let q:= [aw [iV u.act,iV u.item,iV u.n,iV u.kind,aj u.label,aW (u.head.map aQ),aW (u.words.map aQ),aW (u.kids.map aV)]];let q3:= [iV p.a,iV p.i,iV p.n];exact bg (hv:=(aX gM (au p u))) Tryz.func86 (Kv 5 (DP (d:=(Tryz.prog).underlying 27) (n:=3) (l:=(0,1)::(1,1)::(2,1):: []) (xs:= [iV u.act,iV u.item,iV u.n]) (ys:=q3) (H:=aa [aZ 8 false 0 q,aZ 3 false 0 [aw q3]]) rfl (mG (e:=ab u.act p.a) rfl rfl rfl (mG (e:=ab u.item p.i) rfl rfl rfl (zp (e:=ab u.n p.n) rfl rfl rfl rfl)))) (Mb (ab u.act p.a && (ab u.item p.i && ab u.n p.n)) (fun h0=>Kf 2 ((Ra (rr0 q)):Le _ (kO q true))) (fun h0=>Kl 2 16 (Le.len (f:=aV) (l:=u.kids)) (Mg 0 (ML (Nat × List TUnit × Unit) [2,3,15,16,17] (xP p u) (Hk p u) (fun x=>x.2.1.length) (0,u.kids,()) (aU ((xP p u) (0,u.kids,()))) (et (rfl:List.drop 0 (u.kids)=u.kids) (by rfl:(cY p u.kids=cY p u.kids))) (fun x0 hx0 nx0=>Mc x0.2.1 (fun hr0=>have lt0:=gn hx0.1 hr0;have hj0:=je (J:=fun r x=>cY p u.kids=cY p r) (a:=x0.2.2) hr0 hx0.2;(Kh 0 lt0 (Kf 0 (fK (by exact absurd (hs.symm.trans (FN (by assumption) hj0)) (by grind):(AV.ps ((au p u).map aV) false)=(AV.nils)))))) (fun w0 r0 hr0=>let q2:=List.map aV ([u]++au p w0);have lt0:=gp hx0.1 hr0;have glt0:=ap lt0;have nt0:=(gm (enc:=aV) hx0.1 hr0).trans (congrArg some (aH w0));have hj0:=cP (J:=fun r x=>cY p u.kids=cY p r) (a:=x0.2.2) hr0 hx0.2;have q0:nU w0<nU u:=hJ (aM hx0.1 hr0);have q1:(au p w0).length≤nU w0:=lP w0;(Kt 0 lt0 (Mx nt0 (Ks 4 (cX p w0) (fun h2=>Mp (ihy w0 (by exact aM hx0.1 hr0) h2) (Mg 6 (M2 .apl (et (by simp_all [kN]:List.map aV (au p w0)≠ []) (gk (sz:=8) (f:=aV) (fun _=>by (rw [aH];rfl)) (au p w0))) (et (by (refine aE (m:=2 ^ 21) ?_ ?_ ?_ <;> (try simp only [lM,lC,lN]) <;> (have:=lP (p:=p) w0;omega)):small (([AV.agg [iV u.act,iV u.item,iV u.n,iV u.kind,AV.str u.label,AV.ls (u.head.map aQ),AV.ls (u.words.map aQ),AV.ls (u.kids.map aV)]]).length+((au p w0).map aV).length) 120=true) rt) (M1 (.obj 3 (aZ 8 true 0 q2)) (congrArg (aZ 8 true 0) (by (simp only [pu,ee,vg,aH,eJ] <;> rfl) : [AV.agg [iV u.act,iV u.item,iV u.n,iV u.kind,AV.str u.label,AV.ls (u.head.map aQ),AV.ls (u.words.map aQ),AV.ls (u.kids.map aV)]]++List.map aV (au p w0)=List.map aV ([u]++au p w0))) (Mg 0 (M2 (.fsl 0 [] 4 q2) ti (cH (aU (0)) (Jx (f:=aV) (l:= [u]++au p w0) (n:=(q++List.map aV (au p w0)).length) (by simp_all:([u]++au p w0).length=([AV.agg [iV u.act,iV u.item,iV u.n,iV u.kind,AV.str u.label,AV.ls (u.head.map aQ),AV.ls (u.words.map aQ),AV.ls (u.kids.map aV)]]++List.map aV (au p w0)).length)) (aX gM ([u]++au p w0))) (Mf ((Ra (rr0 q2)):Le _ (kO q2 false))))))))) (fun h2=>Mp (ihn w0 (by exact aM hx0.1 hr0) h2) (Kl 4 30 (Le.wr (x:=Int.ofNat x0.1+1) eT) (K1 0 (.frz 2 [2,3,15,16,17]) (cH rt rt ti) (Mf (nx0 (x0.1+1,r0,()) (et (bR hx0.1 hr0) (by grind [iG]:(cY p u.kids=cY p r0))) (fI hr0))))))))))))))))
theorem JQ (p:PId) (u:TUnit) (h:By (cX p u) false) (hn:nU u≤2 ^ 20):kP 86 [eU u,aY p] .nils:=(Eg p u hn).1 h
theorem Ef (p:PId) (u:TUnit) (h:By (cX p u) true) (hn:nU u≤2 ^ 20):kP 86 [eU u,aY p] (.ps ((au p u).map aV) false):=(Eg p u hn).2 h
theorem QC:kP 183 [.nils] .nils:=by
  exact wk Tryz.func183 (.go 4 .fin)<|bV ak
theorem QB:kP 183 [.ps [] false] (.ps [] true):=by
  exact wk Tryz.func183 (.go 7 .fin)<|bV<|kO [] true
theorem QD (w:PWord) (r:List PWord) (hl:r.length<2 ^ 30):kP 183 [.ls ((w::r).map aQ)] (.ls ((w::r).map aQ)):=by
  let q:=List.map aQ (w::r);exact bg Tryz.func183<|Mg 1<|Mz 3 (fun (a:((w::r).map aQ:List AV) = [])=>Mw .abs<|m8 _ _ a)<|Mg 3<|M2 .apl (et (sA:List.map aQ (w::r)≠ [])<|fM 4 aQ (w::r) fun _=>rfl) (by (refine aE (m:=2 ^ 31) ?_ ?_ ?_ <;> first | omega | grind):small ((w::r).map aQ).length 40=true)<|Mg 0<|M2 (.fsl 0 [] 2 q) ti (cH (aU 0) (tA aQ (w::r) q.length (sA:(w::r).length=((w::r).map aQ).length))<|aX io<|w::r)<|Ml 2 (fg q false<|aX io<|w::r)<|Mf<|bV<|aW q
theorem Lt (p:PId) (u:TUnit) (h:By (cX p u) false) (hn:nU u≤2 ^ 20):kP 242 [eU u, .pptr [aY p] 0 0] (.bool false):=by
  have h':cX p u=false:=h
  exact bg Tryz.func242<|Kp 3 (JQ p u h hn)<|Kf 1<|bV<|eu false
theorem Ls (p:PId) (u:TUnit) (h:By (cX p u) true) (hn:nU u≤2 ^ 20):kP 242 [eU u, .pptr [aY p] 0 0] (.bool true):=by
  have h':cX p u=true:=h
  exact bg Tryz.func242<|Kp 3 (Ef p u h hn)<|Kf 1<|bV<|eu true
theorem Y5 (l:List TUnit) (g:Nat) (q:TUnit→Bool) (hp : ∀ k,k∈l→kP g [eU k] (.bool (q k))) (hl:l.length<2 ^ 40):kP 241 [.ls (l.map aV), .func (.func g) [] []] (iV (cS q l 0)):=by
  have rr0 b' (h:(cS q l 0)=b':=by first | exact j9 zd0 hr0 hj0 ‹_› | exact hj0):=h;exact bg Tryz.func241<|Kl 2 7 (ln aV l)<|Mg 0<|rB aV l [0,1,7,8] (fun a _=>([aW<|l.map aV,bZ (bQ g) [] [],nV l.length,nV a],[])) (fun a=>cS q l (0:Nat)=cS q a (l.length - a.length)) sA (fun _ _ zd0 _ hr0 a hj0=>Kh 0 a<|Kf 0<|li<|rr0 (-1)) fun a _ zd0 _ b c d hr0 e _ f hj0=>have f:=f.trans<|congrArg some<|aH b;Kt 0 e<|Kx 4 f<|Kp 0 (hp b<|by exact aM zd0 hr0)<|Mb (q b) (fun _=>Kf 1<|li<|rr0<|Int.ofNat a) fun _=>Kl 0 18 (dB a)<|Kf 0<|d<|by exact ig zd0 hr0 hj0 (by omega)
theorem Yl (l:List TUnit) (g:Nat) (p:PId) (q:TUnit→Bool) (hp : ∀ k,k∈l→kP g [eU k, .pptr [aY p] 0 0] (.bool (q k))) (hl:l.length<2 ^ 40):kP 241 [.ls (l.map aV), .func (.func g) [] [.pptr [aY p] 0 0]] (iV (cS q l 0)):=by
  have rr0 b' (h:(cS q l 0)=b':=by first | exact j9 zd0 hr0 hj0 ‹_› | exact hj0):=h;exact bg Tryz.func241<|Kl 2 7 (ln aV l)<|Mg 0<|rB aV l [0,1,7,8] (fun a _=>([aW<|l.map aV,bZ (bQ g) [] [AV.pptr [aw [iV p.a,iV p.i,iV p.n]] 0 0],nV l.length,nV a],[])) (fun a=>cS q l (0:Nat)=cS q a (l.length - a.length)) sA (fun _ _ zd0 _ hr0 a hj0=>Kh 0 a<|Kf 0<|li<|rr0 (-1)) fun a _ zd0 _ b c d hr0 e _ f hj0=>have f:=f.trans<|congrArg some<|aH b;Kt 0 e<|Kx 4 f<|Kp 0 (hp b<|by exact aM zd0 hr0)<|Mb (q b) (fun _=>Kf 1<|li<|rr0<|Int.ofNat a) fun _=>Kl 0 18 (dB a)<|Kf 0<|d<|by exact ig zd0 hr0 hj0 (by omega)
theorem Qf {D a:Nat} {w:TUnit} {r:List TUnit} {u:TUnit} (h:D=Nat.max a (kc (w::r))∧a≤2 ^ 20) (q0:nU w<nU u) (q1:mN w<nU w) (hn:nU u≤2 ^ 20):D=Nat.max (Nat.max a (1+mN w)) (kc r)∧Nat.max a (1+mN w)≤2 ^ 20:=by
  grind [kc]
theorem Tp {D a:Nat} (h:D=Nat.max a (kc [])∧a≤2 ^ 20):D=a:=by
  simp_all [Ck]
theorem Gr : ∀ (u:TUnit),nU u≤2 ^ 20→kP 227 [eU u] (nV (mN u)):=by
  refine TUnit.ind fun u ih hn=>?_
  have hkl:=bw u
  have ihk : ∀ k,k∈u.kids→kP 227 [eU k] (nV (mN k)):=fun k hk=>ih k hk (bI (sn (hJ hk)) hn)
  have rr0 b' (h:(Int.ofNat (mN u))=b':=by (rw [KA,Tp hj0])):=h;exact bg Tryz.func227<|Kl 5 8 (ln aV u.kids)<|Mg 0<|Ng aV u.kids (0:Nat) [3,7,8,9] (fun a _ b=>([nV b,aW<|u.kids.map aV,nV u.kids.length,nV a],[aZ 8 false 0 [aw [iV u.act,iV u.item,iV u.n,iV u.kind,aj u.label,aW<|u.head.map aQ,aW<|u.words.map aQ,aW<|u.kids.map aV]]])) (fun a b=>kc u.kids=b.max (kc a)∧b≤2 ^ 20) sA (fun _ _ a _ _ _ b hj0=>Kh 0 b<|Kf 1<|li<|rr0<|Int.ofNat a) fun a _ b c d e f g i j _ l _=>have l:=(l).trans<|congrArg some<|aH e;have hj0:=cP (J:=fun a b=>kc u.kids=b.max (kc a)∧b≤2 ^ 20) (a:=b) i d;have d:=hJ<|aM c i;have m:=Dn e;Kt 0 j<|Mx l<|Kp 4 (ihk e<|by exact aM c i)<|Kl 0 16 (bP (x:=(1:Int)+Int.ofNat (mN e)) (n:=(1:Nat)+mN e) eT)<|Kl 0 17 (pV (k:=IntKind.i64)<|VV b<|1+mN e)<|Kl 1 18 (jY a)<|K1 0 (.frz 1 [3,7,8,9]) (et rt ti)<|Mf<|g (b.max<|1+mN e)<|by exact Qf hj0 d m hn
theorem Kz (g:Nat) (q:TUnit→Bool) : ∀ (u:TUnit),(∀ x,x∈bc u→kP g [eU x] (.bool (q x)))→u.kids.length<2 ^ 40→(∀ x,x∈bc u→x.kids.length<2 ^ 40)→kP 228 [eU u, .func (.func g) [] []] (.bool (vd q u)):=by
  refine TUnit.ind fun u ih hp hl hk=>?_
  have ihk : ∀ k,k∈u.kids→kP 228 [eU k, .func (.func g) [] []] (.bool (vd q k)):=fun k hm=>ih k hm (fun x hx=>hp x (bf hm hx)) (hk k (J5 hm)) (fun x hx=>hk x (bf hm hx))
  have hs:=hp u (dK u)
  have rr0 b' (h:(vd q u)=b':=by first | (rw [xt];simp only [aS,ax,bS, *];done) | (rw [xt,hj0,NJ]) | (rw [xt,hj0,Ak];simp only [aS,ax,bS, *];done)):=h;exact bg Tryz.func228<|Kp 3 hs<|Kn 0 (q u) (fun _=>Ky 0<|rr0 false) fun _=>Kl 2 13 (ln aV u.kids)<|K1 0 (.frz 0 [1,12,13,14]) ti<|rB aV u.kids [1,12,13,14] (fun a _=>([bZ (bQ g) [] [],aW<|u.kids.map aV,nV u.kids.length,nV a],[])) (fun a=>(q u && (dh u.kids).all q)=(dh a).all q) (by (simp only [aS,ax,bS, *];done)) (fun _ _ _ _ _ a hj0=>Kh 0 a<|Ky 0<|rr0 true) fun a _ b _ c d e f i _ j hj0=>have j:=j.trans<|congrArg some<|aH c;Kt 0 i<|Mx j<|Kp 4 (ihk c<|by exact aM b f)<|Kn 0 (vd q c) (fun _=>Kf 0<|b9<|rr0 false) fun _=>Kl 0 22 (dB a)<|K1 0 (.frz 0 [1,12,13,14]) ti<|Mf<|e<|by simp_all [Ak]
theorem MI (u:TUnit) (n:Nat) (hn:n<2 ^ 40):kD 229 [eU u, .ptr 0 0 0 0] (aa [.row 1 false 0 [nV n]]) (.bool true) (aa [.row 1 false 0 [nV (n+1)]]):=by
  exact fk Tryz.func229 fun a=>Kl 3 5 (jY n)<|K1 1 (.frz 1 [3]) (et rt ti)<|Mf a
theorem Gx : ∀ (u:TUnit),∀ (n:Nat),n+nU u<2 ^ 40→kD 228 [eU u, .func (.func 229) [] [.ptr 0 0 0 0]] (aa [.row 1 false 0 [nV n]]) (.bool true) (aa [.row 1 false 0 [nV (n+nU u)]]):=by
  refine TUnit.ind fun u ih n hn=>?_
  have hq:=i9 u
  have hl:=bw u
  exact Na Tryz.func228<|K1 3 (.frz 1 [1,2,7,8]) (et rt ti)<|Me (MI u n oA)<|Kl 4 13 (ln aV u.kids)<|Mg 0<|Ng aV u.kids (n+1) [1,12,13,14] (fun a _ b=>([bZ (bQ 229) [] [bJ 0 0 0 0],aW<|u.kids.map aV,nV u.kids.length,nV a],[aZ 1 false 0 [nV b]])) (fun a b=>n+nU u=b+eQ a∧b+eQ a<2 ^ 40) oA (fun _ _ a _ _ _ b _=>Kh 0 b<|Kf 0<|et (aU<|eu true) (by simp_all [l8]:(aa [AObj.row 1 false 0 [nV a]])=(aa [AObj.row 1 false 0 [nV (n+nU u)]]))) fun a _ b c _ d e f g h _ i _=>have i:=i.trans<|congrArg some<|aH d;have c:=aM c g;have g:b+nU d<2 ^ 40:=(by grind [ba]);Kt 0 h<|Mx i<|K1 4 (.frz 1 [1,12,13,14,18,19]) (et rt ti)<|Me (ih d c b g)<|Kl 2 22 (jY a)<|Kf 0<|f (b+nU d)<|by grind [ba]
theorem Dr (u:TUnit) (hn:nU u<2 ^ 39):kP 133 [eU u] (nV (nU u)):=by
  have rr0 b' (h:(Int.ofNat (nU u))=b':=by (rw [gJ])):=h;exact bg Tryz.func133<|Mg 5<|M0 (.ren [1,0] [] [3,4,5])<|M1 (.frz 1 [3,4,5]) (et rt ti)<|Me (Gx u 0 oA)<|Kf 1<|li<|rr0<|Int.ofNat<|0+nU u
noncomputable abbrev rj (ep n:Nat):AObj:= .row 1 false 0 [.slice 1 ep 0 n none]
noncomputable abbrev Ln (ep:Nat) (l:List PId):AObj:= .row 3 true ep (l.map aY)
theorem Vu (u:TUnit):kD 230 [eU u, .ptr 0 0 0 0] (aa [.row 1 false 0 [.nils]]) (.bool true) (aa [rj 0 1,Ln 0 [bY u]]):=by
  exact YM Tryz.func230 (.go 8<|.ren [0,2,1] [] [3]<|.frz 2 [3] .fin) fun a=>et (cH rt rt ti) a
theorem VA (u:TUnit) (ep n:Nat) (l:List PId) (hn:n=l.length) (hl:l.length<2 ^ 30):kD 230 [eU u, .ptr 0 0 0 0] (aa [rj ep n,Ln ep l]) (.bool true) (aa [rj (ep+1) (n+1),Ln (ep+1) (l++ [bY u])]):=by
  exact fk Tryz.func230 fun a=>K1 5 .app (cH (aU ep) (sA:n=(l.map aY).length) (by (refine aE (m:=2 ^ 31) ?_ ?_ ?_ <;> omega):small (n+1) 24=true))<|M1 (.obj 1<|aZ 3 true (ep+1)<|(l++ [PId.mk u.act u.item u.n]).map aY) (congrArg (aZ 3 true<|ep+1)<|dr (f:=aY) (l:=l) (ws:=[PId.mk u.act u.item u.n]))<|K1 1 (.frz 2 [3]) (cH (tR 3 true (ep+1) 2<|aX Ip<|l++ [PId.mk u.act u.item u.n]) rt ti)<|Mf a
theorem MA : ∀ (u:TUnit),∀ (ep n:Nat) (l:List PId),n=l.length→l.length+nU u<2 ^ 30→kC 228 [eU u, .func (.func 230) [] [.ptr 0 0 0 0]] (aa [rj ep n,Ln ep l])
    (fun v h=>∃ y:Nat × Nat × List PId,(y.2.1=y.2.2.length∧y.2.2=l++dY u)∧v = .bool true∧h=aa [rj y.1 y.2.1,Ln y.1 y.2.2]):=by
  refine TUnit.ind fun u ih ep n l hn hl=>?_
  have hq:=i9 u
  have hkl:=bw u
  exact pI Tryz.func228 fun a=>K1 3 (.frz 2 [1,2,7,8]) (cH (tR 3 true ep 2<|aX Ip l) rt ti)<|Me (VA u ep n l hn oA)<|Kl 4 13 (ln aV u.kids)<|Mg 0<|UJ aV u.kids (ep+1) (n+1) (l++ [bY u]) [1,12,13,14] (fun a _ b c d=>([bZ (bQ 230) [] [bJ 0 0 0 0],aW<|u.kids.map aV,nV u.kids.length,nV a],[aZ 1 false 0 [aG 1 b 0 c none],aZ 3 true b<|d.map aY])) (fun a _ b c=>b=c.length∧c++iU a=l++ [bY u]++iU u.kids∧c.length+eQ a<2 ^ 30) gR (fun _ _ b c d _ _ _ e _=>Kh 0 e<|Kf 0<|a (b,c,d)<|by grind [qO, nK]) fun a _ b c d e f g i j k m _ o _=>have o:=(o).trans<|congrArg some<|aH g;have :=cP (J:=fun a b=>b.2.1=b.2.2.length∧b.2.2++iU a=l++ [bY u]++iU u.kids∧b.2.2.length+eQ a<2 ^ 30) (a:=(b,c,d)) k f;have e:=aM e k;have f:d.length+nU g<2 ^ 30:=(by grind [ba]);Kt 0 m<|Mx o<|K1 4 (.frz 2 [1,12,13,14,18,19]) (cH (tR 3 true b 2<|aX Ip d) rt ti)<|Mq (ih g e b c d oA f) fun b _=>Kl 2 22 (dB a)<|Kf 0<|j b.1 b.2.1 b.2.2<|by grind [ba, f9, th]
theorem Uz (l:List PWord) (hl:l.length≤300) (hs : ∀ w,w∈l→w.text.length≤2 ^ 39):kP 373 [.ls (l.map aQ)] (.bool (oa l)):=by
  have hv:=Jl (l.map PWord.text) (by grind) (fun s hm=>by grind)
  have rr0 b' (h:(oa l)=b':=by (simp only [oa,aS,ax,bS, *])):=h;exact bg Tryz.func373<|Kl 3 7 (ln aQ l)<|Mg 0<|ll Nat Nat (List aO) aQ l [0,3,6,7,8] (fun a _=>([aW<|l.map aQ,ak,aW<|l.map aQ,nV l.length,nV a],[])) (fun a _ b c d=>([aW<|l.map aQ,aG 0 b 0 c none,aW<|l.map aQ,nV l.length,nV a],[aZ 1 true b<|d.map mM])) (fun a=>a=l) (fun a _ b c=>b=c.length∧(0:Nat)<c.length∧c++List.map PWord.text a=List.map PWord.text l∧c.length+a.length=l.length) (by rfl) (fun _ _ _ _ _ a _=>Kh 0 a<|Kl 1 19 (ln aQ l)<|Kd 1 256 (Int.ofNat l.length) (fun a _=>Kt 0 (cQ a)<|Mp (aN.onArgs (.cons (Le.lsn (sA:((l.map PWord.text).map mM) = [])) .nil) hv:kP 245 [ak] _)<|MV (cQ a)<|Kf 0<|b9<|rr0<|qQ<|l.map PWord.text) fun a _=>Mh (bN a)<|My (bN a)<|Kf 0<|b9<|rr0 false) (fun a _ _ _ b c _ d _ e _ f g=>Kt 0 e<|Mx f<|Kl 9 17 (jY a)<|Mg 0<|M0 (.ren [1,0] [] [0,3,6,7,8])<|M1 (.frz 1 [0,3,6,7,8]) (et rt ti)<|Mf<|d 0 1 [b.text]<|by (refine ⟨rfl,by simp,?_,?_⟩ <;> (rw [← g]) <;> (first | rfl | grind))) (fun _ _ a b c _ _ _ d _=>Kh 0 d<|Kl 1 19 (ln aQ l)<|Kd 1 256 (Int.ofNat l.length) (fun d _=>Mg 0<|M2 (.fsl 0 [21] 22<|c.map mM) ti (cH (aU a) (tA mM c b (oA:(c).length=b))<|aX Io c)<|Ml 22 (fg (c.map mM) false<|aX Io c)<|Mt (cQ d)<|Mp (aN.onArgs (.cons (cj (sA:((l.map PWord.text).map mM)=(c.map mM))) .nil) hv:kP 245 [aW (c.map mM)] _)<|MV (cQ d)<|Kf 0<|b9<|rr0<|qQ<|l.map PWord.text) fun a _=>Mh (bN a)<|My (bN a)<|Kf 0<|b9<|rr0 false) fun a _ b c d _ _ e f _ g _ i _ j k=>Kt 0 i<|Mx j<|K1 6 .app (cH (aU b) (sA:c=(d.map mM).length) (by (refine aE (m:=2 ^ 20) ?_ ?_ ?_ <;> omega):small (c+1) 16=true))<|M1 (.obj 0<|aZ 1 true (b+1)<|(d++ [e.text]).map mM) (congrArg (aZ 1 true<|b+1)<|dr (f:=mM) (l:=d) (ws:=[e.text]))<|Kl 1 17 (jY a)<|K1 0 (.frz 1 [0,3,6,7,8]) (et (tR 1 true (b+1) 1<|aX Io<|d++ [e.text]) ti)<|Mf<|g (b+1) (c+1) (d++ [e.text])<|by (refine ⟨by simp_all,by simp,?_,?_⟩ <;> first | (rw [← k.2.2.1];simp;done) | grind)
theorem oH (a b:Nat):Int.ofNat (a+b)=Int.ofNat a+Int.ofNat b:=rfl
theorem RV (u:TUnit) (h1:u.head.length≤300) (h2:u.words.length≤300) (h3:u.kids.length<2 ^ 30) (h4:u.label.length≤2 ^ 39) (h5 : ∀ w,w∈u.head→w.text.length≤2 ^ 39) (h6 : ∀ w,w∈u.words→w.text.length≤2 ^ 39):kP 348 [eU u] (.bool (lG u)):=by
  have hlk : ∀ (m:List ((Int × aO) × Bool)) (a:Int) (s:aO),eF (some (.bool false)) false (bx true 2 [(0,1),(1,2)] (.agg [iV a, .str s]) (b0 pb dU m 0) 0)=some (.bool (Nc mH (a,s) m)):=fun m a s=>Fb J6 m (a,s)
  have hup : ∀ (m:List ((Int × aO) × Bool)) (a:Int) (s:aO),rz (b0 pb dU m 0) m.length (.agg [iV a, .str s]) (.bool true) (bx true 2 [(0,1),(1,2)] (.agg [iV a, .str s]) (b0 pb dU m 0) 0)=some (b0 pb dU (fw mH (a,s) true m) 0,(fw mH (a,s) true m).length):=fun m a s=>JX J6 m (a,s)
  have r1:=Uz u.head h1 h5
  have r2:=Uz u.words h2 h6
  have r3:=tw u.label h4
  have rr0 b' (h:(lG u)=b':=by first | (rw [lG,hj0,mB];simp only [DY,aP,oH,cond_true,cond_false,aS,ax,bS,xH,Bool.false_and,Bool.not_true,A4,Bool.true_and, *];first | done | rfl) | (simp only [lG,DY,aP,oH,cond_true,cond_false,aS,ax,bS, *];done) | (simp only [lG,mB,DY,aP,oH,cond_true,cond_false,aS,ax,bS, *];done) | (simp only [lG,mB,DY,aP,oH,cond_true,cond_false,aS,ax,bS,xH,Bool.false_and,Bool.not_true,A4,Bool.true_and, *];first | done | rfl)):=h;exact bg Tryz.func348<|Kj 4 u.kind 0 (fun _ b=>Kn 3 (dR u.label (ByteArray.mk #[]).data.toList) (fun b=>Mt (cQ b)<|Mt (cQ b)<|Mt (cQ b)<|Mt (cQ b)<|Mt (cQ b)<|Mt (cQ b)<|Mt (cQ b)<|MV (cQ b)<|Ky 1<|rr0 false) fun c=>Kh 0 (bN c)<|Kh 0 (bN c)<|Kl 0 16 (ln aQ u.head)<|Mh (bN c)<|Kh 0 (bN c)<|Kh 0 (bN c)<|Kl 0 19 (ln aQ u.words)<|Mh (bN c)<|Kl 0 20 (Le.wr (x:=Int.ofNat u.head.length+Int.ofNat u.words.length) eT)<|Mh (bN c)<|Kw 0 (bN c)<|Mb (ar 0<|Int.ofNat u.head.length+Int.ofNat u.words.length) (fun b=>have :=ap b;Ky 0<|rr0 false) fun c=>have :=aF c;Kl 4 48 (ln aV u.kids)<|Mg 0<|Ng aV u.kids ([]:List ((Int × aO) × Bool)) [1,3,47,48,49] (fun b _ c=>([bJ 0 0 0 0,AV.map 1,aW<|u.kids.map aV,nV u.kids.length,nV b],[aZ 8 false 0 [aw [iV u.act,iV u.item,iV u.n,iV u.kind,aj u.label,aW<|u.head.map aQ,aW<|u.words.map aQ,aW<|u.kids.map aV]],AObj.map (b0 pb dU c 0) c.length])) (fun b c=>mB u.kind u.kids []=mB u.kind b c) (by rfl) (fun _ _ _ _ _ _ b hj0=>Kh 0 b<|Kl 2 74 (ln aV u.kids)<|Kf 1<|b9<|rr0<|ax<|ar 64<|Int.ofNat u.kids.length) fun c _ d _ _ e f g _ i _ j hj0=>have j:=j.trans<|congrArg some<|aH e;Kt 0 i<|Mx j<|Kl 11 59 (pV (k:=IntKind.i64) b)<|Kp 1 (yG 0 e.kind)<|Kn 1 (jW 0 e.kind) (fun b=>Mt (cQ b)<|Mt (cQ b)<|MV (cQ b)<|Ky 1<|rr0 false) fun b=>Kh 0 (bN b)<|Kh 0 (bN b)<|M1 (.look<|eu<|Nc mH (e.kind,e.label) d) (hlk d e.kind e.label)<|My (bN b)<|Mb (Nc mH (e.kind,e.label) d) (fun _=>Kf 0<|b9<|rr0 false) fun _=>K1 1 (.upd (b0 pb dU (fw mH (e.kind,e.label) true d) 0) (fw mH (e.kind,e.label) true d).length) (hup d e.kind e.label)<|Kl 0 71 (dB c)<|K1 0 (.frz 2 [1,3,47,48,49]) (cH (tM (fw mH (e.kind,e.label) true d).length 2 (by exact cZ J6 zE _ _:fZ (b0 pb dU (fw mH (e.kind,e.label) true d) 0)=0)) rt ti)<|Mf<|g (fw mH (e.kind,e.label) true d)<|by (rw [hj0,mB];simp only [aS,ax,bS, *];done)) fun _ _=>Kp 1 (wW u.kind)<|Kb 1 (dR (c8 u.kind) (ByteArray.mk #[]).data.toList) (fun b=>Mt b<|Mt b<|Mt b<|MV b<|Ky 5<|rr0 false) fun b=>Kh 0 b<|Kh 0 b<|Mp r3<|Mh b<|Kw 0 b<|Kn 0 (j7 u.label) (fun b=>Mt (cQ b)<|Mt (cQ b)<|Mt (cQ b)<|MV (cQ b)<|Ky 3<|rr0 false) fun b=>Kh 0 (bN b)<|Kh 0 (bN b)<|Mp r1<|Mh (bN b)<|Kw 0 (bN b)<|Kn 0 (oa u.head) (fun b=>Mt (cQ b)<|Mt (cQ b)<|Mt (cQ b)<|MV (cQ b)<|Ky 1<|rr0 false) fun b=>Kh 0 (bN b)<|Kh 0 (bN b)<|Mp r2<|Mh (bN b)<|Kw 0 (bN b)<|Mn (oa u.words) (fun _=>Ky 0<|rr0 false) fun _=>Kl 4 48 (ln aV u.kids)<|Mg 0<|Ng aV u.kids ([]:List ((Int × aO) × Bool)) [1,3,47,48,49] (fun b _ c=>([bJ 0 0 0 0,AV.map 1,aW<|u.kids.map aV,nV u.kids.length,nV b],[aZ 8 false 0 [aw [iV u.act,iV u.item,iV u.n,iV u.kind,aj u.label,aW<|u.head.map aQ,aW<|u.words.map aQ,aW<|u.kids.map aV]],AObj.map (b0 pb dU c 0) c.length])) (fun b c=>mB u.kind u.kids []=mB u.kind b c) (by rfl) (fun _ _ _ _ _ _ b hj0=>Kh 0 b<|Kl 2 74 (ln aV u.kids)<|Kf 1<|b9<|rr0<|ax<|ar 64<|Int.ofNat u.kids.length) fun b _ c _ _ d e f _ g _ i hj0=>have i:=i.trans<|congrArg some<|aH d;Kt 0 g<|Mx i<|Kp 13 (yG u.kind d.kind)<|Kn 1 (jW u.kind d.kind) (fun b=>Mt (cQ b)<|Mt (cQ b)<|MV (cQ b)<|Ky 1<|rr0 false) fun g=>Kh 0 (bN g)<|Kh 0 (bN g)<|M1 (.look<|eu<|Nc mH (d.kind,d.label) c) (hlk c d.kind d.label)<|My (bN g)<|Mb (Nc mH (d.kind,d.label) c) (fun _=>Kf 0<|b9<|rr0 false) fun _=>K1 1 (.upd (b0 pb dU (fw mH (d.kind,d.label) true c) 0) (fw mH (d.kind,d.label) true c).length) (hup c d.kind d.label)<|Kl 0 71 (dB b)<|K1 0 (.frz 2 [1,3,47,48,49]) (cH (tM (fw mH (d.kind,d.label) true c).length 2 (by exact cZ J6 zE _ _:fZ (b0 pb dU (fw mH (d.kind,d.label) true c) 0)=0)) rt ti)<|Mf<|f (fw mH (d.kind,d.label) true c)<|by (rw [hj0,mB];simp only [aS,ax,bS, *];done)
theorem Ia (u:TUnit) (hl:nU u<2 ^ 29):kC 228 [eU u, .func (.func 230) [] [.ptr 0 0 0 0]] (aa [.row 1 false 0 [.nils]])
    (fun v h=>∃ y:Nat × Nat × List PId,(y.2.1=y.2.2.length∧y.2.2=dY u)∧v = .bool true∧h=aa [rj y.1 y.2.1,Ln y.1 y.2.2]):=by
  have hq:=i9 u
  have hkl:=bw u
  exact pI Tryz.func228 fun a=>K1 3 (.frz 1 [1,2,7,8]) (et rt ti)<|Me (Vu u)<|Kl 4 13 (ln aV u.kids)<|Mg 0<|UJ aV u.kids (0:Nat) (1:Nat) ([bY u]:List PId) [1,12,13,14] (fun a _ b c d=>([bZ (bQ 230) [] [bJ 0 0 0 0],aW<|u.kids.map aV,nV u.kids.length,nV a],[aZ 1 false 0 [aG 1 b 0 c none],aZ 3 true b<|d.map aY])) (fun a _ b c=>b=c.length∧c++iU a= [bY u]++iU u.kids∧c.length+eQ a<2 ^ 30) gR (fun _ _ b c d _ _ _ e f=>Kh 0 e<|Kf 0<|a (b,c,d)<|by (refine ⟨f.1,?_⟩;have:=f.2.1;rw [qO,ed] at this;rw [this,nK];rfl)) fun a _ b c d e f g i j k l _ m _=>have m:=(m).trans<|congrArg some<|aH g;have :=cP (J:=fun a b=>b.2.1=b.2.2.length∧b.2.2++iU a= [bY u]++iU u.kids∧b.2.2.length+eQ a<2 ^ 30) (a:=(b,c,d)) k f;have :=aM e k;have e:d.length+nU g<2 ^ 30:=(by grind [ba]);Kt 0 l<|Mx m<|K1 4 (.frz 2 [1,12,13,14,18,19]) (cH (tR 3 true b 2<|aX Ip d) rt ti)<|Mq (MA g b c d oA e) fun b _=>Kl 2 22 (dB a)<|Kf 0<|j b.1 b.2.1 b.2.2<|by grind [ba, f9, th]
theorem Pu (u:TUnit) (hl:nU u<2 ^ 29):kP 134 [eU u] (.ls ((dY u).map aY)):=by
  have rr0 b' (h:((dY u).map aY)=b':=by (rw [hy0.2])):=h;exact bg Tryz.func134<|Mg 4<|M0 (.ren [1,0] [] [3,4,5])<|M1 (.frz 1 [3,4,5]) (et rt ti)<|Mq (Ia u hl) fun a hy0=>Mg 1<|M2 (.fsl 0 [] 2<|a.2.2.map aY) ti (cH (aU a.1) (tA aY a.2.2 a.2.1 (oA:(a.2.2).length=a.2.1))<|aX Ip a.2.2)<|Ml 2 (fg (a.2.2.map aY) false<|aX Ip a.2.2)<|Mf<|cj<|rr0<|a.2.2.map aY
theorem Vt (u:TUnit) (hl:nU u<2 ^ 20):kP 349 [eU u] (.bool (PA u)):=by
  have hb:(dY u).length<2 ^ 20:=by grind [th]
  have hi:=Pu u (by omega)
  have hlk : ∀ (m:List (PId × Bool)) (a b c:Int),eF (some (.bool false)) false (bx true 3 [(0,1),(1,1),(2,1)] (.agg [iV a,iV b,iV c]) (b0 aY dU m 0) 0)=some (.bool (Nc bv ⟨a,b,c⟩ m)):=fun m a b c=>Fb IX m ⟨a,b,c⟩
  have hup : ∀ (m:List (PId × Bool)) (a b c:Int),rz (b0 aY dU m 0) m.length (.agg [iV a,iV b,iV c]) (.bool true) (bx true 3 [(0,1),(1,1),(2,1)] (.agg [iV a,iV b,iV c]) (b0 aY dU m 0) 0)=some (b0 aY dU (fw bv ⟨a,b,c⟩ true m) 0,(fw bv ⟨a,b,c⟩ true m).length):=fun m a b c=>JX IX m ⟨a,b,c⟩
  have rr0 b' (h:(PA u)=b':=by ((try clear gh1);(try clear gh2);(try clear gh3);(try clear gh4);(try clear gh5);(try clear gh6);(try clear gh7);have e:=Cz (kenc:=aY) (f:=dU) za0 0;simp only [e,lM] at *;simp only [PA,fT,bv,bY,bF,hj0,Lv,aS,ax,bS, *];first | done | rfl)):=h;exact bg Tryz.func349<|Kp 2 hi<|Kl 4 12 (ln aY<|dY u)<|Mg 0<|Ng aY (dY u) ([]:List (PId × Bool)) [1,3,4,11,12,13] (fun d _ g=>([bJ 0 0 0 0,aW<|(dY u).map aY,AV.map 1,aW<|(dY u).map aY,nV (dY u).length,nV d],[aZ 8 false 0 [aw [iV u.act,iV u.item,iV u.n,iV u.kind,aj u.label,aW<|u.head.map aQ,aW<|u.words.map aQ,aW<|u.kids.map aV]],AObj.map (b0 aY dU g 0) g.length])) (fun d g=>Bd (dY u) []=Bd d g) (by rfl) (fun _ _ za0 _ _ _ d hj0=>Kh 0 d<|K1 1 (.look<|eu<|Nc bv (PId.mk 0 0 0) za0) (hlk za0 0 0 0)<|Kb 2 (Nc bv (PId.mk 0 0 0) za0) (fun d=>Kt 0 d<|Kt 0 d<|Ku 0 d<|Kj 0 (Int.ofNat (b0 aY dU za0 0).length) 1 (fun d gh2=>Mt d<|Mt d<|Mt d<|Mt d<|Mt d<|Mt d<|MV d<|Ky 0<|rr0 true) fun d gh2=>Kh 0 d<|Kh 0 d<|Kh 0 d<|Kh 0 d<|Kh 0 d<|Kj 0 (Int.ofNat (b0 aY dU za0 0).length) (Int.ofNat ((dY u).map aY).length) (fun g gh3=>Kt 0 g<|Kt 0 g<|Kt 0 g<|Kt 0 g<|Kt 0 g<|Kt 0 g<|Mv (lY ((Tryz.prog).underlying 27) u.act u.item u.n 0 0 0 h0)<|Mt g<|Kh 0 d<|MV g<|My d<|Kf 0<|b9<|rr0<|ab u.kind 0==(ab u.act 0 && (ab u.item 0 && ab u.n 0))) fun g gh3=>Mh g<|Mh g<|Mh g<|Mh g<|Mh g<|Mh g<|Mh g<|Mh d<|My g<|My d<|Ky 0<|rr0 false) fun d=>Mh d<|Mh d<|My d<|Kj 6 (Int.ofNat (b0 aY dU za0 0).length) (Int.ofNat ((dY u).map aY).length) (fun d gh4=>Kt 0 d<|Kt 0 d<|Kt 0 d<|Kt 0 d<|Kt 0 d<|Kt 0 d<|Mv (lY ((Tryz.prog).underlying 27) u.act u.item u.n 0 0 0 h0)<|Mt d<|Ku 0 d<|Kf 1<|b9<|rr0<|ab u.kind 0==(ab u.act 0 && (ab u.item 0 && ab u.n 0))) fun d gh4=>Mh d<|Mh d<|Mh d<|Mh d<|Mh d<|Mh d<|Mh d<|My d<|Ky 1<|rr0 false) fun d _ za0 _ _ g i j _ k _ l hj0=>Kt 0 k<|Mx l<|K1 4 (.upd (b0 aY dU (fw bv (PId.mk g.a g.i g.n) true za0) 0) (fw bv (PId.mk g.a g.i g.n) true za0).length) (hup za0 g.a g.i g.n)<|Kl 0 19 (jY d)<|K1 0 (.frz 2 [1,3,4,11,12,13]) (cH (tM (fw bv (PId.mk g.a g.i g.n) true za0).length 2 (by exact cZ IX zE _ _:fZ (b0 aY dU (fw bv (PId.mk g.a g.i g.n) true za0) 0)=0)) rt ti)<|Mf<|j (fw bv (PId.mk g.a g.i g.n) true za0)<|by (rw [hj0];rfl)
/-- What a tree's parts must be, so that the walks can count. -/
def rb (x:TUnit):Prop:=x.head.length≤300∧x.words.length≤300∧x.label.length≤2 ^ 39∧(∀ w,w∈x.head→w.text.length≤2 ^ 39)∧∀ w,w∈x.words→w.text.length≤2 ^ 39
def ma (u:TUnit):Prop:=nU u≤2 ^ 19∧∀ x,x∈bc u→rb x
theorem Gj (u:TUnit) (h:ma u):kP 228 [eU u, .func (.func 348) [] []] (.bool (vd lG u)):=
  Kz 348 lG u
    (fun x hx=>by
      obtain ⟨a,b,c,d,e⟩:=h.2 x hx
      have h1:=bw x
      have h2:=dG hx
      have h3:=h.1
      grind [RV])
    (by have h1:=bw u;have h3:=h.1;omega)
    (fun x hx=>by
      have h1:=bw x
      have h2:=dG hx
      have h3:=h.1
      omega)
theorem xJ (u:TUnit) (h:ma u):kP 300 [eU u] (.bool (ki u)):=by
  have h1:=h.1
  have e1:=Gj u h
  have e2:=Gr u (by omega)
  have e3:=Dr u (by omega)
  have e4:=Vt u (by omega)
  have hd:=Dn u
  have rr0 b' (h:(ki u)=b':=by (simp only [ki,aS,ax,bS, *];done)):=h;exact bg Tryz.func300<|Kp 2 e1<|Kb 0 (vd lG u) (fun a=>Kt 0 a<|Mp e2<|Mt a<|Ku 0 a<|Kn 0 (ar 8<|Int.ofNat<|mN u) (fun a=>Kt 0 (cQ a)<|Mp e3<|Mt (cQ a)<|Ku 0 (cQ a)<|Kn 0 (ar 1024<|Int.ofNat<|nU u) (fun a=>Kt 0 (cQ a)<|Mp e4<|MV (cQ a)<|Kf 0<|b9<|rr0<|PA u) fun a=>Mh (bN a)<|My (bN a)<|Ky 0<|rr0 false) fun a=>Mh (bN a)<|Mh (bN a)<|My (bN a)<|Ky 2<|rr0 false) fun a=>Mh a<|Mh a<|My a<|Ky 4<|rr0 false
theorem rZ (l:List PWord) (hl:l.length<2 ^ 30):kP 183 [.ls (l.map aQ)] (.ls (l.map aQ)):=by
  cases l with
  | nil=>exact aN.ls0 (QC.less Le.nils) (QB.lessB (u:= .ls []) (by kernel_rfl))
  | cons w r=>grind [QD]
noncomputable abbrev vt:AObj:= .row 8 false 0 [.agg [iV 0,iV 0,iV 0,iV 0, .str [], .nils, .nils, .nils]]
theorem GA : ∀ (u:TUnit),nU u≤2 ^ 20→(∀ x,x∈bc u→x.head.length<2 ^ 30∧x.words.length<2 ^ 30)→kP 87 [eU u] (eU u):=by
  refine TUnit.ind fun u ih hn ht=>?_
  have hkl:=bw u
  have c1:=rZ u.head (ht u (dK u)).1
  have c2:=rZ u.words (ht u (dK u)).2
  have ihk : ∀ k,k∈u.kids→kP 87 [eU k] (eU k):=fun k hk=>ih k hk (bI (sn (hJ hk)) hn) (fun x hx=>ht x (bf hk hx))
  have rr0 b' (h:(u.kids.map aV)=b':=by first | rfl | (rw [← hj0];rfl) | (rw [← hj0.2.2.1,ed])):=h;let q1:=List.map aQ u.words;let q2:=List.map aQ u.head;exact bg Tryz.func87<|Kp 3 c1<|Kp 1 c2<|Kl 7 16 (ln aV u.kids)<|Mg 0<|ll Nat Nat (List TUnit) aV u.kids [1,2,3,15,16,17] (fun a _=>([bJ 0 0 0 0,bJ 1 0 0 0,ak,aW<|u.kids.map aV,nV u.kids.length,nV a],[aZ 8 false 0 [aw [iV u.act,iV u.item,iV u.n,iV u.kind,aj u.label,aW<|u.head.map aQ,aW<|u.words.map aQ,aW<|u.kids.map aV]],aZ 8 false 0 [aw [iV 0,iV 0,iV 0,iV 0,aj [],ak,ak,ak]]])) (fun a _ b c d=>([bJ 0 0 0 0,bJ 1 0 0 0,aG 2 b 0 c none,aW<|u.kids.map aV,nV u.kids.length,nV a],[aZ 8 false 0 [aw [iV u.act,iV u.item,iV u.n,iV u.kind,aj u.label,aW<|u.head.map aQ,aW<|u.words.map aQ,aW<|u.kids.map aV]],aZ 8 false 0 [aw [iV 0,iV 0,iV 0,iV 0,aj [],ak,ak,ak]],aZ 8 true b<|d.map aV])) (fun a=>a=u.kids) (fun a _ b c=>b=c.length∧(0:Nat)<c.length∧c++a=u.kids∧c.length+a.length=u.kids.length) (by rfl) (fun _ _ _ _ _ a hj0=>Kh 0 a<|Kl 0 27 bo<|Kf 3 (aL (lc<|lc<|lc<|lc<|lc<|lc<|lc<|.cons (cj<|rr0 []) .nil)<|by kernel_rfl:Le _ (AV.agg [iV u.act,iV u.item,iV u.n,iV u.kind,AV.str u.label,AV.ls q2,AV.ls q1,AV.ls []]))) (fun a _ _ b c d _ e f g _ i _=>have i:=(i).trans<|congrArg some<|aH c;have hj0:=cP (J:=fun a _=>a=u.kids) (a:=()) f b;Kt 0 g<|Mx i<|Kp 4 (ihk c gR)<|K1 1 (.obj 3<|aZ 8 true 0<|List.map aV [c]) (congrArg (aZ 8 true 0)<|SD (f:=aV) (g:=Go.Ev.eU) (ws:=[c]) aH)<|Kl 1 26 (dB a)<|K1 0 (.ren [0,1,3,2] [3] [1,2,3,15,16,17]) (tS 8 true 0<|aX gM [c])<|M1 (.frz 3 [1,2,3,15,16,17]) (kq (tR 8 true 0 3<|aX gM [c]) rt rt ti)<|Mf<|e 0 1 [c]<|by (refine ⟨rfl,by simp,?_,?_⟩ <;> (rw [← hj0]) <;> (first | rfl | grind))) (fun _ _ a b c _ _ _ d hj0=>let e:=List.map aV c;Kh 0 d<|Mg 0<|M2 (.fsl 2 [1,2] 27 e) (cH rt rt ti) (cH (aU a) (tA aV c b (oA:(c).length=b))<|aX gM c)<|Ml 27 (fg e false<|aX gM c)<|Kf 3 (aL (lc<|lc<|lc<|lc<|lc<|lc<|lc<|.cons (cj<|rr0 e) .nil)<|by kernel_rfl:Le _ (AV.agg [iV u.act,iV u.item,iV u.n,iV u.kind,AV.str u.label,AV.ls q2,AV.ls q1,AV.ls e]))) fun a _ b c d _ e f g _ i j l _ n _=>have n:=(n).trans<|congrArg some<|aH f;have hj0:=cP (J:=fun a b=>b.2.1=b.2.2.length∧(0:Nat)<b.2.2.length∧b.2.2++a=u.kids∧b.2.2.length+a.length=u.kids.length) (a:=(b,c,d)) j e;Kt 0 l<|Mx n<|Kp 4 (ihk f gR)<|K1 0 .app (cH (aU b) (sA:c=(d.map aV).length) (by (refine aE (m:=2 ^ 21) ?_ ?_ ?_ <;> omega):small (c+1) 120=true))<|M1 (.obj 2<|aZ 8 true (b+1)<|(d++ [f]).map aV) (congrArg (aZ 8 true<|b+1)<|xf (f:=aV) (g:=Go.Ev.eU) (l:=d) (ws:=[f]) aH)<|Kl 1 26 (dB a)<|K1 0 (.frz 3 [1,2,3,15,16,17]) (kq (tR 8 true (b+1) 3<|aX gM<|d++ [f]) rt rt ti)<|Mf<|i (b+1) (c+1) (d++ [f])<|by (refine ⟨by simp_all,by simp,?_,?_⟩ <;> first | (rw [← hj0.2.2.1];simp;done) | grind)
theorem VN (p:PId) (u:TUnit) (h:By (cX p u) true) (hn:nU u≤2 ^ 20) (ht : ∀ x,x∈bc u→x.head.length<2 ^ 30∧x.words.length<2 ^ 30):kP 48 [eU u,aY p] (.tuple [eU (eH p u), .bool true]):=by
  have hw:=Ef p u h hn
  have hlen:=lP (p:=p) u
  have hpos:0<(au p u).length:=pC.2 (kN h)
  have hm:eH p u∈bc u:=JZ u _ (QZ h)
  have hf:eH p u=gD (au p u) ((au p u).length - 1):=by unfold eH;simp_all
  have hc:=GA (eH p u) (bI (dG hm) hn) (fun x hx=>ht x (by
    grind [iL]))
  rw [hf] at hc ⊢
  have hz:=Qj hpos
  exact bg Tryz.func48<|Kp 5 hw<|Kl 2 11 (ln aV<|au p u)<|Kh 0 hz<|Kl 2 16 (ln aV<|au p u)<|Kl 0 17 (EV (au p u).length)<|Mx ((aR aV (oA:(au p u).length - 1<(au p u).length)).trans<|congrArg some<|aH _)<|Kp 0 hc<|Kf 1<|bV<|cK [aw [iV (gD (au p u)<|(au p u).length - 1).act,iV (gD (au p u)<|(au p u).length - 1).item,iV (gD (au p u)<|(au p u).length - 1).n,iV (gD (au p u)<|(au p u).length - 1).kind,aj (gD (au p u)<|(au p u).length - 1).label,aW<|List.map aQ (gD (au p u)<|(au p u).length - 1).head,aW<|List.map aQ (gD (au p u)<|(au p u).length - 1).words,aW<|List.map aV (gD (au p u)<|(au p u).length - 1).kids],eu true]
theorem VP (p:PId) (u:TUnit) (h:By (cX p u) false) (hn:nU u≤2 ^ 20):kP 48 [eU u,aY p] (.tuple [eU bj, .bool false]):=by
  have hw:=JQ p u h hn
  exact bg Tryz.func48<|Kp 5 hw<|Kf 7 (cn<|.cons (aL (lc<|lc<|lc<|lc<|lc<|.cons bo<|.cons bo<|.cons bo .nil)<|by kernel_rfl)<|lc .nil:Le _ (cK [aw [iV 0,iV 0,iV 0,iV 0,aj [],ak,ak,ak],eu false]))
theorem QQ (p:PId) (u:TUnit) (hn:nU u≤2 ^ 20) (ht : ∀ x,x∈bc u→x.head.length<2 ^ 30∧x.words.length<2 ^ 30):kP 48 [eU u,aY p] (.tuple [eU (eH p u), .bool (cX p u)]):=by
  cases h:cX p u with
  | true=>grind [VN]
  | false=>
    have:=VP p u h hn
    rwa [show bj=eH p u by unfold eH;simp_all] at this
theorem Y4 (l:List PWord) (g:Nat) (q:PWord→Bool) (hp : ∀ k,k∈l→kP g [aQ k] (.bool (q k))) (hl:l.length<2 ^ 40):kP 350 [.ls (l.map aQ), .func (.func g) [] []] (iV (cS q l 0)):=by
  have rr0 b' (h:(cS q l 0)=b':=by first | exact j9 zd0 hr0 hj0 ‹_› | exact hj0):=h;exact bg Tryz.func350<|Kl 2 7 (ln aQ l)<|Mg 0<|rB aQ l [0,1,7,8] (fun a _=>([aW<|l.map aQ,bZ (bQ g) [] [],nV l.length,nV a],[])) (fun a=>cS q l (0:Nat)=cS q a (l.length - a.length)) sA (fun _ _ zd0 _ hr0 a hj0=>Kh 0 a<|Kf 0<|li<|rr0 (-1)) fun a _ zd0 _ b c d hr0 e _ f hj0=>Kt 0 e<|Kx 4 f<|Kp 0 (hp b<|by exact aM zd0 hr0)<|Mb (q b) (fun _=>Kf 1<|li<|rr0<|Int.ofNat a) fun _=>Kl 0 18 (dB a)<|Kf 0<|d<|by exact ig zd0 hr0 hj0 (by omega)
theorem YH (l:List PWord) (g:Nat) (q:PWord→Bool) (hp : ∀ k,k∈l→kP g [aQ k] (.bool (q k))) (hl:l.length<2 ^ 40):kP 303 [.ls (l.map aQ), .func (.func g) [] []] (.bool (l.any q)):=by
  have h:=Y4 l g q hp hl
  have rr0 b' (h:(l.any q)=b':=by (rw [jj];simp only [aS,ax,bS,pq])):=h;exact bg Tryz.func303<|Kp 2 h<|Kf 1<|b9<|rr0<|ax<|ar (cS q l 0) 0
theorem BI (w:PWord):kP 302 [aQ w] (.bool (oO w)):=by
  exact bg Tryz.func302<|Kv 4 (DZ ((Tryz.prog).underlying 62) w.act w.item w.at_ 0 0 0<|aa [aZ 4 false 0 [aw [aj w.text,iV w.act,iV w.item,iV w.at_]]])<|Kf 0<|bV<|eu<|ax<|ab w.act 0 && (ab w.item 0 && ab w.at_ 0)
theorem Q2 (u:TUnit) (h1:u.head.length<2 ^ 40) (h2:u.words.length<2 ^ 40):kP 301 [eU u] (.bool (Cl u)):=by
  have c1:=YH u.head 302 oO (fun k _=>BI k) h1
  have c2:=YH u.words 302 oO (fun k _=>BI k) h2
  have rr0 b' (h:(Cl u)=b':=by (simp only [Cl,fT,bv,bY,bF,aS,ax,bS, *];first | done | rfl)):=h;exact bg Tryz.func301<|Kv 5 (lY ((Tryz.prog).underlying 27) u.act u.item u.n 0 0 0<|aa [aZ 8 false 0 [aw [iV u.act,iV u.item,iV u.n,iV u.kind,aj u.label,aW<|u.head.map aQ,aW<|u.words.map aQ,aW<|u.kids.map aV]]])<|Kb 0 (ab u.act 0 && (ab u.item 0 && ab u.n 0)) (fun a=>Kt 0 a<|Kt 0 a<|Kt 0 a<|Mp c1<|Mt a<|Ku 0 a<|Kn 0 (u.head.any oO) (fun a=>Kt 0 (cQ a)<|Kt 0 (cQ a)<|Kt 0 (cQ a)<|Mp c2<|Mt (cQ a)<|Ku 0 (cQ a)<|Kf 0<|b9<|rr0<|ax<|u.words.any oO) fun a=>Mh (bN a)<|Mh (bN a)<|Mh (bN a)<|Mh (bN a)<|My (bN a)<|Ky 0<|rr0 false) fun a=>Mh a<|Mh a<|Mh a<|Mh a<|My a<|Ky 2<|rr0 false
theorem Wy (u:TUnit) (h:ma u):kP 244 [eU u] (.bool (GS u)):=by
  have e1:=xJ u h
  have e2:=Kz 301 Cl u (fun x hx=>by
      obtain ⟨a,b,_⟩:=h.2 x hx
      grind [Q2]) (by have h1:=bw u;have h3:=h.1;omega) (fun x hx=>by
      have h1:=bw x
      have h2:=dG hx
      have h3:=h.1
      omega)
  have rr0 b' (h:(GS u)=b':=by (simp only [GS,aS,ax,bS, *];first | done | rfl)):=h;exact bg Tryz.func244<|Kp 2 e1<|Kb 0 (ki u) (fun c=>Kt 0 c<|Mp e2<|MV c<|Kf 0<|b9<|rr0<|vd Cl u) fun c=>Mh c<|My c<|Ky 0<|rr0 false
theorem Lr (p:PId) (u:TUnit) (hh:cX p u=false) (hn:nU u≤2 ^ 20):kP 148 [eU u,aY p] (.tuple [aY bF,iV (-1), .bool false]):=by
  have hw:=JQ p u hh hn
  exact bg Tryz.func148<|Kp 6 hw<|Kf 8<|bV<|cK [aw [iV 0,iV 0,iV 0],iV (-1),eu false]
theorem Lp (p:PId) (u:TUnit) (hh:cX p u=true) (hl:ar (Int.ofNat (au p u).length) 2=true) (hn:nU u≤2 ^ 20):kP 148 [eU u,aY p] (.tuple [aY bF,iV (-1), .bool false]):=by
  have hw:=Ef p u hh hn
  exact bg Tryz.func148<|Kp 6 hw<|Kl 2 14 (ln aV<|au p u)<|Kt 0 hl<|Kf 3<|bV<|cK [aw [iV 0,iV 0,iV 0],iV (-1),eu false]
theorem On (p:PId) (u:TUnit) (h:jk p u=false) (hn:nU u≤2 ^ 20):kP 148 [eU u,aY p] (.tuple [aY bF,iV (-1), .bool false]):=by
  grind [Lr, Lp, jk]
theorem Ol (p:PId) (u:TUnit) (h:jk p u=true) (hn:nU u≤2 ^ 20):kP 148 [eU u,aY p] (.tuple [aY (tW p u),iV (qW p u), .bool true]):=by
  have hl:ar (Int.ofNat (au p u).length) 2=false:=by grind [jk]
  have hl2:2≤(au p u).length:=by have:=aF hl;grind
  have hh:cX p u=true:=by
    cases e:cX p u with
    | true=>rfl
    | false=>grind [PD]
  have hw:=Ef p u hh hn
  have hlen:=lP (p:=p) u
  have hm:Ha p u∈bc u:=JZ u _ (iQ (by omega))
  have hkn : ∀ k,k∈(Ha p u).kids→nU k≤2 ^ 20:=fun k hk=>bI (dG (iL hm (J5 hk))) hn
  have hkl:(Ha p u).kids.length<2 ^ 40:=by have:=bw (Ha p u);have:=dG hm;omega
  have hi:=Yl (Ha p u).kids 242 p (cX p) (fun k hk=>by
    grind [cX, Ls, Lt]) hkl
  rw [HI h,HL h]
  generalize hG:Ha p u=y at *
  have hG2:gD (au p u) ((au p u).length - 2)=y:=hG
  have rr0 b' (h:((bY y).a)=b':=by (rw [hG2];rfl)):=h;have rr1 b' (h:((bY y).i)=b':=by (rw [hG2];rfl)):=h;have rr2 b' (h:((bY y).n)=b':=by (rw [hG2];rfl)):=h;exact bg Tryz.func148<|Kp 6 hw<|Kl 2 14 (ln aV<|au p u)<|Kh 0 hl<|Kl 2 19 (ln aV<|au p u)<|Kl 0 20 (bP (x:=Int.ofNat (au p u).length - (2:Int)) (n:=(au p u).length - 2) eT)<|Mx ((aR aV (oA:(au p u).length - 2<(au p u).length)).trans<|congrArg some<|aH _)<|Mg 5<|M0 (.ren [2,3,0,1] [] [4,8,24,25])<|M1 (.frz 2 [4,8,24,25]) (cH rt rt ti)<|Mp (aN.onArgs (.cons (cj (by (rw [hG2];done):(y.kids.map aV)=(List.map aV (gD (au p u) ((au p u).length - 2)).kids)))<|lc .nil) hi:kP 241 [aW (List.map aV (gD (au p u) ((au p u).length - 2)).kids),bZ (bQ 242) [] [AV.pptr [aw [iV p.a,iV p.i,iV p.n]] 0 0]] _)<|Kf 6 (cn<|.cons (aL (.cons (li<|rr0 (gD (au p u)<|(au p u).length - 2).act)<|.cons (li<|rr1 (gD (au p u)<|(au p u).length - 2).item)<|.cons (li<|rr2 (gD (au p u)<|(au p u).length - 2).n) .nil)<|by kernel_rfl)<|lc<|lc .nil:Le _ (cK [aw [iV (gD (au p u) ((au p u).length - 2)).act,iV (gD (au p u) ((au p u).length - 2)).item,iV (gD (au p u) ((au p u).length - 2)).n],iV (cS (cX p) y.kids 0),eu true]))
theorem Om (p:PId) (u:TUnit) (hn:nU u≤2 ^ 20):kP 148 [eU u,aY p] (.tuple [aY (tW p u),iV (qW p u), .bool (jk p u)]):=by
  grind [jk, Ol, U5, Ot, On]
theorem XO (p:PId) (u:TUnit) (h:cX p u=false) (hn:nU u≤2 ^ 20):kP 226 [eU u,aY p] (.ls ((pm p u).map aY)):=by
  have hw:=JQ p u h hn
  have e:pm p u = []:=by unfold pm;rw [zw h];rfl
  rw [e]
  let q:= [aZ 8 false 0 [aw [iV u.act,iV u.item,iV u.n,iV u.kind,aj u.label,aW (u.head.map aQ),aW (u.words.map aQ),aW (u.kids.map aV)]],aZ 3 false 0 [aw [iV p.a,iV p.i,iV p.n]]];let q1:= [ak,ak,iV (IntKind.i64.wrap (0 - 2))];exact bg Tryz.func226<|Kp 5 hw<|Mg 4<|X4 [5,6,7] (q1,q) True 0 ti fun _ _=>Kf 4 bo
theorem XN (p:PId) (u:TUnit) (h:cX p u=true) (hn:nU u≤2 ^ 20):kP 226 [eU u,aY p] (.ls ((pm p u).map aY)):=by
  have hw:=Ef p u h hn
  have hlen:=lP (p:=p) u
  have hpos:0<(au p u).length:=pC.2 (kN h)
  have hac:=Cn p u
  have rr0 b' (h:((pm p u).map aY)=b':=by first | rfl | (rw [RW hx0 ‹_›];rfl) | (rw [RJ hx0.2.1 oA ‹_›])):=h;exact bg Tryz.func226<|Kp 5 hw<|Kl 0 6 (fg ((au p u).map aV) false<|aX gM<|au p u)<|Kl 1 12 (ln aV<|au p u)<|Kl 0 13 (Le.wr (x:=Int.ofNat (au p u).length - 2) eT)<|K1 0 (.frz 0 [5,6,7]) ti<|Rv Int Nat Nat (List PId) (Int.ofNat (au p u).length - 2) [5,6,7] (fun a=>([ak,aW<|(au p u).map aV,iV a],[])) (fun a b c d=>([aG 0 b 0 c none,aW<|(au p u).map aV,iV a],[aZ 3 true b<|d.map aY])) (fun a=>a=Int.ofNat (au p u).length - (2:Int)) (fun a _ b c=>b=c.length∧c=oU p u (a+(1:Int)).toNat∧((-1):Int)≤a∧a+(2:Int)≤↑(au p u).length∧c.length≤(au p u).length) (fun a=>(a+1).toNat) (fun a _ _ _=>(a+1).toNat) (by rfl) (fun a hx0 _ b=>have hx0:=hx0;Kd 1 a 0 (fun _ _=>Kl 2 20 (Aa (x:=a) oA)<|Mx ((aR aV (gR:a.toNat<(au p u).length)).trans<|congrArg some<|aH _)<|Kl 6 17 (Le.wr (x:=a - 1) eT)<|Kf 0<|b (a - 1) 0 1 [PId.mk (gD (au p u) a.toNat).act (gD (au p u) a.toNat).item (gD (au p u) a.toNat).n] (by exact ⟨rfl,NX hx0 (by omega),by omega,by grind,by grind⟩) oA) fun _ _=>Kf 1 (Le.lsn<|rr0 []:Le _ (ak))) fun a b c d hx0 _ e=>have hx0:=hx0;Kd 1 a 0 (fun _ _=>Kl 2 20 (Aa (x:=a) oA)<|Mx ((aR aV (oA:a.toNat<(au p u).length)).trans<|congrArg some<|aH _)<|K1 2 .app (cH (aU b) (sA:c=(d.map aY).length) (by (refine aE (m:=2 ^ 21) ?_ ?_ ?_ <;> omega):small (c+1) 24=true))<|M1 (.obj 0<|aZ 3 true (b+1)<|(d++ [PId.mk (gD (au p u) a.toNat).act (gD (au p u) a.toNat).item (gD (au p u) a.toNat).n]).map aY) (congrArg (aZ 3 true<|b+1)<|dr (f:=aY) (l:=d) (ws:=[PId.mk (gD (au p u) a.toNat).act (gD (au p u) a.toNat).item (gD (au p u) a.toNat).n]))<|Kl 2 17 (Le.wr (x:=a - 1) eT)<|Kf 0<|e (a - 1) (b+1) (c+1) (d++ [PId.mk (gD (au p u) a.toNat).act (gD (au p u) a.toNat).item (gD (au p u) a.toNat).n]) (by exact ⟨by simp_all,G5 hx0.2.1 hx0.2.2.2.1 (by omega),by omega,by omega,by (have z:=G5 hx0.2.1 hx0.2.2.2.1 (by omega);grind)⟩) oA) fun _ _=>Mg 1<|M2 (.fsl 0 [] 4<|d.map aY) ti (cH (aU b) (tA aY d c (oA:(d).length=c))<|aX Ip d)<|Ml 4 (fg (d.map aY) false<|aX Ip d)<|Mf<|cj<|rr0<|d.map aY
theorem G4 (p:PId) (u:TUnit) (hn:nU u≤2 ^ 20):kP 226 [eU u,aY p] (.ls ((pm p u).map aY)):=by
  grind [XN, XO]
end Go.Proofs.YtempcdhknnjebaaGreatDoor
