/- Functions walked: what each of them answers, for The book is constant between change days and differs on each change day from the day before: part 8. Conditions: those that each theorem names. -/
import Derived.Test.YtaepacpodblomaaGreatDoorH7
namespace Go.Proofs.YtaepacpodblomaaGreatDoor
open Go Go.Ev
theorem KD(l m:List PWord)(hl:l.length<2^60)(hm:m.length<2^60):kP 38 [.ls (l.map aQ),.ls (m.map aQ)] (.bool (cW BU l m)):=by
  have rr0 b' (h:(cW BU l m)=b':=by first|exact mT e9 hj0|exact lk e9|(rw[ig zD0 hr0 e9 hj0];simp only[BU,aS,aj,bS, *];first|done|rfl)):=h;exact bD Tryz.func38<|Kl 2 7 (ln aQ l)<|Kl 1 9 (ln aQ m)<|Kc 0 (Int.ofNat l.length) (Int.ofNat m.length) (fun _ _=>Ky 0<|rr0 false) fun _ _=>Mg 0<|vZ aQ l [0,1,5] (fun a _=>([aW<|l.map aQ,aW<|m.map aQ,nV a],[])) (fun a=>cW BU l m=cW BU a (m.drop<|l.length-a.length)) (by(exact Ad)) (fun _ _ zD0 _ hr0 a hj0=>Kl 2 13 (ln aQ l)<|Kh 0 a<|Ky 0<|rr0 true) fun a _ zD0 _ b c d hr0 e _ f hj0=>Kl 2 13 (ln aQ l)<|Kt 0 e<|Kx 1 f<|Kx 2 (bJ aQ (by(simp only[oN,lM,lS]at *;omega):a<(m).length))<|Kv 0 (yy (d:=(Tryz.prog).underlying 102) (n:=4) (l:=(0,2)::(1,1)::(2,1)::(3,1)::[]) (xs:=[ax b.text,iV b.act,iV b.item,iV b.at_]) (ys:=[ax (gD m a).text,iV (gD m a).act,iV (gD m a).item,iV (gD m a).at_]) (H:=AHeap.mk 1000000 Tr.nil) rfl<|mP (e:=dT b.text (gD m a).text) rfl rfl rfl<|mP (e:=al b.act (gD m a).act) rfl rfl rfl<|mP (e:=al b.item (gD m a).item) rfl rfl rfl<|Ac (e:=al b.at_ (gD m a).at_) rfl rfl rfl rfl)<|Mn (dT b.text (gD m a).text &&(al b.act (gD m a).act &&(al b.item (gD m a).item &&al b.at_ (gD m a).at_))) (fun _=>Kf 0<|ca<|rr0 false) fun _=>Kl 1 16 (dK a)<|Kf 0<|d<|by(rw[ig zD0 hr0 (by(simp only[oN]at *;omega)) hj0];simp only[BU,aS,aj,bS, *];first|done|rfl)
theorem S7:∀(u:TUnit),jq u→∀v,jq v→kP 15 [eU u,eU v] (.bool (lP u v)):=by
  refine TUnit.ind fun u ih hu v hv=>?_
  obtain⟨u1,u2,u3,u4⟩:=lx.1 hu
  obtain⟨v1,v2,v3,v4⟩:=lx.1 hv
  have hh:=KD u.head v.head u1 v1
  have hw:=KD u.words v.words u2 v2
  have hk:∀a,a∈u.kids→∀b,b∈v.kids→kP 15 [eU a,eU b] (.bool (lP a b)):=fun a ha b hb=>ih a ha (u4 a ha) b (v4 b hb)
  have rr0 b' (h:(lP u v)=b':=by(rw[Jb];first|(rw[mT (by(simp only[oN]at *;omega)) hj0];simp only[bg,bv,bY,aS,aj,bS, *];done)|(rw[show cW lP u.kids v.kids=false from lk (by(simp only[oN]at *;omega))];simp only[bg,bv,bY,aS,aj,bS, *];done)|(rw[ig zD0 hr0 (by(simp only[oN]at *;omega)) hj0];simp only[bg,bv,bY,aS,aj,bS, *];done)|(simp only[bg,bv,bY,aS,aj,bS, *];first|done|rfl))):=h;exact bD Tryz.func15<|Kv 6 (DE ((Tryz.prog).underlying 34) u.act u.item u.n v.act v.item v.n<|av [aZ 8 false 0 [ab [iV u.act,iV u.item,iV u.n,iV u.kind,ax u.label,aW<|u.head.map aQ,aW<|u.words.map aQ,aW<|u.kids.map aK]],aZ 8 false 0 [ab [iV v.act,iV v.item,iV v.n,iV v.kind,ax v.label,aW<|v.head.map aQ,aW<|v.words.map aQ,aW<|v.kids.map aK]]])<|Kn 0 (al u.act v.act&&(al u.item v.item&&al u.n v.n)) (fun c=>Mt (cX c)<|Mt (cX c)<|Mt (cX c)<|Mt (cX c)<|MV (cX c)<|Ky 9<|rr0 false) fun c=>Kh 0 (b0 c)<|Kh 0 (b0 c)<|Kh 0 (b0 c)<|Kh 0 (b0 c)<|Kw 0 (b0 c)<|Kc 0 u.kind v.kind (fun c _=>Mt (cX c)<|Mt (cX c)<|Mt (cX c)<|Mt (cX c)<|MV (cX c)<|Ky 7<|rr0 false) fun c _=>Kh 0 (b0 c)<|Kh 0 (b0 c)<|Kh 0 (b0 c)<|Kh 0 (b0 c)<|Kw 0 (b0 c)<|Kn 0 (dT u.label v.label) (fun c=>Mt (cX c)<|Mt (cX c)<|Mt (cX c)<|Mt (cX c)<|Mt (cX c)<|MV (cX c)<|Ky 5<|rr0 false) fun c=>Kh 0 (b0 c)<|Kh 0 (b0 c)<|Kh 0 (b0 c)<|Kh 0 (b0 c)<|Mp hh<|Mh (b0 c)<|Kw 0 (b0 c)<|Kn 0 (cW BU u.head v.head) (fun c=>Mt (cX c)<|Mt (cX c)<|Mt (cX c)<|Mt (cX c)<|Mt (cX c)<|MV (cX c)<|Ky 3<|rr0 false) fun c=>Kh 0 (b0 c)<|Kh 0 (b0 c)<|Kh 0 (b0 c)<|Kh 0 (b0 c)<|Mp hw<|Mh (b0 c)<|Kw 0 (b0 c)<|Kn 0 (cW BU u.words v.words) (fun c=>Mt (cX c)<|Mt (cX c)<|Mt (cX c)<|Mt (cX c)<|Mt (cX c)<|Mt (cX c)<|MV (cX c)<|Ky 1<|rr0 false) fun c=>Kh 0 (b0 c)<|Kh 0 (b0 c)<|Kl 0 44 (ln aK u.kids)<|Mh (b0 c)<|Kh 0 (b0 c)<|Kh 0 (b0 c)<|Kl 0 47 (ln aK v.kids)<|Mh (b0 c)<|Kw 0 (b0 c)<|Mn (al (Int.ofNat u.kids.length)<|Int.ofNat v.kids.length) (fun c=>have:=HW c;Ky 0<|rr0 false) fun c=>have:=iX c;Mg 0<|vZ aK u.kids [2,3,5] (fun c _=>([bU 0 0 0 0,bU 1 0 0 0,nV c],[aZ 8 false 0 [ab [iV u.act,iV u.item,iV u.n,iV u.kind,ax u.label,aW<|u.head.map aQ,aW<|u.words.map aQ,aW<|u.kids.map aK]],aZ 8 false 0 [ab [iV v.act,iV v.item,iV v.n,iV v.kind,ax v.label,aW<|v.head.map aQ,aW<|v.words.map aQ,aW<|v.kids.map aK]]])) (fun c=>cW lP u.kids v.kids=cW lP c (v.kids.drop<|u.kids.length-c.length)) (by(exact Ad)) (fun _ _ zD0 _ hr0 c hj0=>Kl 3 53 (ln aK u.kids)<|Kh 0 c<|Ky 0<|rr0 true) fun c _ zD0 _ d e f hr0 g _ i hj0=>have i:=i.trans<|congrArg some<|aR d;Kl 3 53 (ln aK u.kids)<|Kt 0 g<|Kx 2 i<|Kx 3 ((bJ aK (by(simp only[oN,lM,lS]at *;omega):c<(v.kids).length)).trans<|congrArg some<|aR _)<|Kp 0 (hk d (by exact bZ zD0 hr0) (gD v.kids c)<|by exact gV (by(simp only[oN]at *;omega)))<|Kn 0 (lP d<|gD v.kids c) (fun _=>Kf 0<|ca<|rr0 false) fun _=>Kl 1 56 (dK c)<|Kf 0<|f<|by(rw[ig zD0 hr0 (by(simp only[oN]at *;omega)) hj0];simp only[aS,aj,bS, *];first|done|rfl)
noncomputable def HL(s:PSpan):List Int:=match ao s.to 1048577 with|true=>[s.from_,s.to]|false=>[s.from_]
noncomputable def cj:List PSpan→List Int
  |[]=>[]
  |s::r=>HL s++cj r
theorem AP{s:PSpan}(h:ao s.to 1048577=true):HL s=[s.from_,s.to]:=by simp only[HL,h]
theorem AR{s:PSpan}(h:ao s.to 1048577=false):HL s=[s.from_]:=by simp only[HL,h]
theorem R9(s:PSpan):(HL s).length≤2:=by unfold HL;cases ao s.to 1048577<;>simp
theorem DK:∀(l:List PSpan),(cj l).length≤2*l.length
  |[]=>au _
  | s::r=>by
    have:=DK r;have:=R9 s
    simp only[cj,lA,lC];omega
theorem Bu(l:List PSpan)(hl:l.length<2^30):kP 52 [.ls (l.map aJ)] (.ls ((cj (g0 l)).map aw)):=by
  have hn:=gG l hl
  have hq:=(kG l).len
  generalize g0 l=N at *
  have rr0 b' (h:((cj N).map aw)=b':=by first|rfl|exact aX Ji _|(rw[hj0];rfl)|(rw[hj0.2.2];simp[cj])):=h;exact bD Tryz.func52<|Kp 2 hn<|Kl 0 8 (ln aJ N)<|Mg 0<|ko Nat Nat (List Int) aJ N [3,7,8,9] (fun a _=>([ah,aW<|N.map aJ,nV N.length,nV a],[])) (fun a _ b c d=>([aN 0 b 0 c none,aW<|N.map aJ,nV N.length,nV a],[aZ 1 true b<|d.map aw])) (fun a=>cj N=cj a) (fun a _ b c=>b=c.length∧c.length+2*a.length≤2^21+10∧cj N=c++cj a) (by rfl) (fun _ _ _ _ _ a hj0=>Kh 0 a<|Kf 1 (Le.lsn<|rr0 []:Le _ (ah))) (fun a _ b _ c d _ e f g _ i hj0=>Kt 0 g<|Mx i<|Ka 11 c.to 1048577 (fun _ _=>Kl 6 26 (dK a)<|Mg 0<|M0 (.ren [1,0] [] [3,7,8,9])<|M1 (.frz 1 [3,7,8,9]) (et rt ti)<|Mf<|e 1 2 [c.from_,c.to]<|by exact⟨rfl,by(have:=fS b f;simp only[lC,lN]<;>(omega)),by rw[hj0,cj];first|rw[AP (by assumption)]|rw[AR (by assumption)]⟩) fun _ _=>Kl 0 26 (dK a)<|Mg 0<|M0 (.ren [1,0] [] [3,7,8,9])<|M1 (.frz 1 [3,7,8,9]) (et rt ti)<|Mf<|e 0 1 [c.from_]<|by exact⟨rfl,by(have:=fS b f;simp only[lC,lN]<;>(omega)),by rw[hj0,cj];first|rw[AP (by assumption)]|rw[AR (by assumption)]⟩) (fun _ _ a b c _ _ _ d hj0=>Kh 0 d<|Mg 1<|M2 (.fsl 0 [] 2<|c.map aw) ti (cn (aU a) (tA aw c b (by(omega):(c).length=b))<|aX Ji c)<|Ml 2 (fg (c.map aw) false<|aX Ji c)<|Mf<|cK<|rr0<|c.map aw) fun a _ b c d _ _ e f _ g _ i _ j hj0=>Kt 0 i<|Mx j<|K1 6 .app (cn (aU b) (by(rw[lM];exact hj0.1):c=(d.map aw).length) (by(have z:=hj0.2.1;refine dY (m:=2^22) ?_ ?_ ?_<;>first|(omega)|(simp only[lA,lC,lN]<;>(first|omega|(simp only[oN]at *;omega)))):small (c+1) 8=true))<|M1 (.obj 0<|aZ 1 true (b+1)<|(d++[e.from_]).map aw) (congrArg (aZ 1 true<|b+1)<|dQ (f:=aw) (l:=d) (ws:=[e.from_]))<|Ka 3 e.to 1048577 (fun _ _=>K1 3 .app (cn (aU<|b+1) (by(simp only[lM,lA,lC,lN]<;>(omega)):c+1=((d++[e.from_]).map aw).length) (by(have z:=hj0.2.1;refine dY (m:=2^22) ?_ ?_ ?_<;>first|(omega)|(simp only[lA,lC,lN]<;>(first|omega|(simp only[oN]at *;omega)))):small (c+1+1) 8=true))<|M1 (.obj 0<|aZ 1 true (b+1+1)<|(d++[e.from_]++[e.to]).map aw) (congrArg (aZ 1 true<|b+1+1)<|dQ (f:=aw) (l:=d++[e.from_]) (ws:=[e.to]))<|Kl 1 26 (dK a)<|K1 0 (.frz 1 [3,7,8,9]) (et (tR 1 true (b+1+1) 1<|aX Ji<|d++[e.from_]++[e.to]) ti)<|Mf<|g (b+1+1) (c+1+1) (d++[e.from_]++[e.to])<|by exact⟨by(simp only[lA,lC,lN]<;>(omega)),by(have z:=hj0.2.1;simp only[lA,lC,lN]at * <;>(omega)),by rw[hj0.2.2,cj];first|(rw[AP (by assumption)];simp)|(rw[AR (by assumption)];simp)⟩) fun _ _=>Kl 0 26 (dK a)<|K1 0 (.frz 1 [3,7,8,9]) (et (tR 1 true (b+1) 1<|aX Ji<|d++[e.from_]) ti)<|Mf<|g (b+1) (c+1) (d++[e.from_])<|by exact⟨by(simp only[lA,lC,lN]<;>(omega)),by(have z:=hj0.2.1;simp only[lA,lC,lN]at * <;>(omega)),by rw[hj0.2.2,cj];first|(rw[AP (by assumption)];simp)|(rw[AR (by assumption)];simp)⟩
noncomputable abbrev ny:AObj:=.row 1 false 0 [.ps [iV 0] true]
noncomputable abbrev kX(i ep n:Nat):AObj:=.row 1 false 0 [.slice i ep 0 n none]
theorem QU{α:Type}{f:α→AV}{l:List α}(h:0<l.length):l.map f≠[]:=by
  intro e;have:=congrArg List.length e;simp at this;subst this;simp at h
theorem VP(d:PDeed)(ss:List PSpan)(B:List Int)(m:List (Int×PStart))(hB:kP 52 [.ls (ss.map aJ)] (.ls (B.map aw)))(hb:B.length=0):
    kD 51 [aY d,.ls (ss.map aJ),.ptr 0 0 0 0] (av [ny,bm m,dc d]) (.tuple []) (av [ny,bm m,dc d]):=by
  let q:=[ab [iV d.act,iV d.item,iV d.day,iV d.it.kind,aW (d.it.at_.map az),aW (d.it.to.map az),iV d.it.where_,iV d.it.nth_,iV d.it.unit.act,iV d.it.unit.item,iV d.it.unit.n,iV d.it.unit.kind,ax d.it.unit.label,aW (d.it.unit.head.map aQ),aW (d.it.unit.words.map aQ),aW (d.it.unit.kids.map aK),aW (d.it.old.map m0),aW (d.it.new.map m0),ax d.it.label,ax d.it.for_,iV d.it.start.kind,iV d.it.start.day,ax d.it.start.event,iV d.it.act,iV d.it.item,iV d.it.day,ax d.it.event,aW (d.it.by_.map NT)]];let q1:=AHeap.mk 4 (bB (av [aZ 1 false 0 [jj [iV 0] true],AObj.map (aT ak m 0) m.length,aZ 28 false 0 q,aZ 28 false 0 q]) ([]) Tr.nil);let q2:=[iV 0];exact ej Tryz.func51 fun a=>Kp 2 hB<|Mw (.opv (jj q2 true) q1<|.go 0<|.frz 3 [] .fin)<|xV rt rt (Oq (f:=aw) (l:=B) (sz:=1) (b:=8) (xs:=q2) (t:=true) (h:=q1) (by(omega):(B).length=0)) (jJ rt (tM m.length 3<|aa (f:=ak) (fun _=>rfl) m 0) rt ti) a
theorem Y7(d:PDeed)(ss:List PSpan)(B:List Int)(m:List (Int×PStart))(hB:kP 52 [.ls (ss.map aJ)] (.ls (B.map aw)))(hb:0<B.length)(hb2:B.length<2^30):
    kD 51 [aY d,.ls (ss.map aJ),.ptr 0 0 0 0] (av [ny,bm m,dc d]) (.tuple []) (av [kX 3 0 (([0]++B).map aw).length,bm m,dc d,lL 0 ([0]++B)]):=by
  let q:=List.map aw ([0]++B);exact ej Tryz.func51 fun a=>Kp 2 hB<|M4 (.apx q) rt rt (et (by exact QU hb:List.map aw B≠[])<|fM 1 aw B fun _=>rfl) (et (et (aU q) (by(refine dY (m:=2^32) ?_ ?_ ?_<;>first|(omega)|(simp only[lA,lM,lC,lN]<;>(omega))):small (([iV 0]).length+(B.map aw).length) 8=true)) rt)<|Mg 0<|M2 (.ren [0,1,2,4,3] [1,4] []) (tN m.length<|aa (f:=ak) (fun _=>rfl) m 0) (tS 1 true 0<|aX Ji<|[0]++B)<|M1 (.frz 4 []) (xV (tR 1 true 0 4<|aX Ji<|[0]++B) rt (tM m.length 4<|aa (f:=ak) (fun _=>rfl) m 0) rt ti)<|Mf a
theorem Y6(d:PDeed)(ss:List PSpan)(B:List Int)(m:List (Int×PStart))(ep n:Nat)(out:List Int)(hB:kP 52 [.ls (ss.map aJ)] (.ls (B.map aw)))(hb:B.length=0):
    kD 51 [aY d,.ls (ss.map aJ),.ptr 0 0 0 0] (av [kX 2 ep n,bm m,lL ep out,dc d]) (.tuple []) (av [kX 2 ep n,bm m,lL ep out,dc d]):=by
  let q:=[ab [iV d.act,iV d.item,iV d.day,iV d.it.kind,aW (d.it.at_.map az),aW (d.it.to.map az),iV d.it.where_,iV d.it.nth_,iV d.it.unit.act,iV d.it.unit.item,iV d.it.unit.n,iV d.it.unit.kind,ax d.it.unit.label,aW (d.it.unit.head.map aQ),aW (d.it.unit.words.map aQ),aW (d.it.unit.kids.map aK),aW (d.it.old.map m0),aW (d.it.new.map m0),ax d.it.label,ax d.it.for_,iV d.it.start.kind,iV d.it.start.day,ax d.it.start.event,iV d.it.act,iV d.it.item,iV d.it.day,ax d.it.event,aW (d.it.by_.map NT)]];let q1:=AHeap.mk 5 (bB (av [aZ 1 false 0 [aN 2 ep 0 n none],AObj.map (aT ak m 0) m.length,aZ 1 true ep (out.map aw),aZ 28 false 0 q,aZ 28 false 0 q]) ([2]) Tr.nil);exact ej Tryz.func51 fun a=>Kp 2 hB<|Mw (.opv (aN 2 ep 0 n none) q1<|.go 0<|.frz 4 [] .fin)<|xV rt (gS (tR 1 true ep 5<|aX Ji out) rt) (SK (f:=aw) (l:=B) (sz:=1) (b:=8) (id:=2) (ep:=ep) (off:=0) (len:=n) (cap:=none) (h:=q1) (by(omega):(B).length=0)) (xV rt (tR 1 true ep 4<|aX Ji out) (tM m.length 4<|aa (f:=ak) (fun _=>rfl) m 0) rt ti) a
theorem Y5(d:PDeed)(ss:List PSpan)(B:List Int)(m:List (Int×PStart))(ep n:Nat)(out:List Int)(hB:kP 52 [.ls (ss.map aJ)] (.ls (B.map aw)))(hb:0<B.length)(hn:n=out.length)(hn2:n+B.length<2^37):
    kD 51 [aY d,.ls (ss.map aJ),.ptr 0 0 0 0] (av [kX 2 ep n,bm m,lL ep out,dc d]) (.tuple []) (av [kX 2 (ep+1) (n+(B.map aw).length),bm m,lL (ep+1) (out++B),dc d]):=by
  exact ej Tryz.func51 fun a=>Kp 2 hB<|M4 (.apx<|(out++B).map aw) rt (gS (tR 1 true ep 5<|aX Ji out) rt) (et (by exact QU hb:List.map aw B≠[])<|fM 1 aw B fun _=>rfl) (et (cn (aU ep) (by(rw[lM];exact hn):n=(out.map aw).length) (by(refine dY (m:=2^37) ?_ ?_ ?_<;>first|(omega)|(simp only[lA,lM,lC,lN]<;>(omega))):small (n+(B.map aw).length) 8=true))<|dQ (f:=aw) (l:=out) (ws:=B))<|K1 0 (.frz 4 []) (xV rt (tR 1 true (ep+1) 4<|aX Ji<|out++B) (tM m.length 4<|aa (f:=ak) (fun _=>rfl) m 0) rt ti)<|Mf a
noncomputable def Bt(m:List (Int×PStart))(ds:List PDeed)(d:PDeed):List Int:=match ch d.it.kind with|true=>cj (ap (aC m d.act) d ds)|false=>[]
noncomputable def iT(m:List (Int×PStart))(ds:List PDeed):List PDeed→List Int
  |[]=>[]
  |d::r=>Bt m ds d++iT m ds r
theorem AO(s:PStart)(d:PDeed)(l:List PDeed):kP 52 [.ls ((ap s d l).map aJ)] (.ls ((cj (ap s d l)).map aw)):=by
  have hn:=jL s d l
  have h:=Bu (ap s d l) (nK hn.len (by decide))
  have e:g0 (ap s d l)=ap s d l:=(K6 hn).symm
  rwa[e]at h
theorem s8{m:List (Int×PStart)}{ds r:List PDeed}{d:PDeed}(h:ch d.it.kind=true):iT m ds (d::r)=cj (ap (aC m d.act) d ds)++iT m ds r:=by simp only[iT,Bt,h]
theorem JB{m:List (Int×PStart)}{ds r:List PDeed}{d:PDeed}(h:ch d.it.kind=false):iT m ds (d::r)=iT m ds r:=by simp only[iT,Bt,h,wx]
theorem qL(s:PStart)(d:PDeed)(l:List PDeed):(cj (ap s d l)).length≤2^22:=by
  have h:=DK (ap s d l);have:=(jL s d l).len;omega
theorem Qi{B:List Int}(h:B.isEmpty=true):B.length=0:=by rw[List.isEmpty_iff.1 h];rfl
theorem VA{B:List Int}(h:B.isEmpty=false):0<B.length:=by
  cases B with
  |nil=>cases h
  |cons a r=>exact wK _
theorem HB{B X:List Int}(h:B.isEmpty=true):B++X=X:=by rw[List.isEmpty_iff.1 h];rfl
theorem Xp(s:PStart)(d:PDeed)(l:List PDeed)(m:List (Int×PStart))(hb:By (cj (ap s d l)).isEmpty true):kD 51 [aY d,.ls ((ap s d l).map aJ),.ptr 0 0 0 0] (av [ny,bm m,dc d]) (.tuple []) (av [ny,bm m,dc d]):=VP d _ _ m (AO s d l) (Qi hb)
theorem Xr(s:PStart)(d:PDeed)(l:List PDeed)(m:List (Int×PStart))(hb:(cj (ap s d l)).isEmpty=true):kD 51 [aY d,.ls ((ap s d l).map aJ),.ptr 0 0 0 0] (av [ny,bm m,dc d]) (.tuple []) (av [ny,bm m,dc d]):=VP d _ _ m (AO s d l) (Qi hb)
theorem Xo(s:PStart)(d:PDeed)(l:List PDeed)(m:List (Int×PStart))(hb:By (cj (ap s d l)).isEmpty false):kD 51 [aY d,.ls ((ap s d l).map aJ),.ptr 0 0 0 0] (av [ny,bm m,dc d]) (.tuple []) (av [kX 3 0 (([0]++cj (ap s d l)).map aw).length,bm m,dc d,lL 0 ([0]++cj (ap s d l))]):=Y7 d _ _ m (AO s d l) (VA hb) (nK (qL s d l) (by decide))
theorem Xn(s:PStart)(d:PDeed)(l:List PDeed)(m:List (Int×PStart))(ep n:Nat)(out:List Int)(hb:By (cj (ap s d l)).isEmpty true):kD 51 [aY d,.ls ((ap s d l).map aJ),.ptr 0 0 0 0] (av [kX 2 ep n,bm m,lL ep out,dc d]) (.tuple []) (av [kX 2 ep n,bm m,lL ep out,dc d]):=Y6 d _ _ m ep n out (AO s d l) (Qi hb)
theorem Xm(s:PStart)(d:PDeed)(l:List PDeed)(m:List (Int×PStart))(ep n:Nat)(out:List Int)(hb:By (cj (ap s d l)).isEmpty false)(hn:n=out.length)(hn2:n<2^36):kD 51 [aY d,.ls ((ap s d l).map aJ),.ptr 0 0 0 0] (av [kX 2 ep n,bm m,lL ep out,dc d]) (.tuple []) (av [kX 2 (ep+1) (n+((cj (ap s d l)).map aw).length),bm m,lL (ep+1) (out++cj (ap s d l)),dc d]):=Y5 d _ _ m ep n out (AO s d l) (VA hb) hn (by have:=qL s d l;omega)
noncomputable def bE(m:List (Int×PStart))(ds:List PDeed)(d:PDeed):Nat:=match(Bt m ds d).isEmpty with|true=>0|false=>1
noncomputable def pD(m:List (Int×PStart))(ds:List PDeed):List PDeed→Nat
  |[]=>0
  |d::r=>bE m ds d+pD m ds r
theorem ZZ{m:List (Int×PStart)}{ds:List PDeed}{d:PDeed}(h:ch d.it.kind=false):bE m ds d=0:=by simp only[bE,Bt,h];rfl
theorem ZQ{m:List (Int×PStart)}{ds:List PDeed}{d:PDeed}(h:ch d.it.kind=true)(h2:(cj (ap (aC m d.act) d ds)).isEmpty=true):bE m ds d=0:=by simp only[bE,Bt,h,h2]
theorem ZX{m:List (Int×PStart)}{ds:List PDeed}{d:PDeed}(h:ch d.it.kind=true)(h2:(cj (ap (aC m d.act) d ds)).isEmpty=false):bE m ds d=1:=by simp only[bE,Bt,h,h2]
/-- What the rounds are to tell: 'A' nothing yet, 'B' something. -/
structure BrkA(m:List (Int×PStart))(ds r:List PDeed):Prop where
  f:iT m ds ds=iT m ds r
  e:pD m ds ds=pD m ds r
structure BrkB(m:List (Int×PStart))(ds r:List PDeed)(ep n:Nat)(out:List Int):Prop where
  len:n=out.length
  small:out.length+2^22*r.length≤2^22*ds.length+1
  f:[0]++iT m ds ds=out++iT m ds r
  e:pD m ds ds=ep+1+pD m ds r
theorem BrkA.no{m:List (Int×PStart)}{ds r:List PDeed}{d:PDeed}(h:BrkA m ds (d::r))(ha:ch d.it.kind=false):BrkA m ds r:=⟨by rw[h.f,JB ha],by rw[h.e];simp only[pD,ZZ ha,fw]⟩
theorem BrkA.nil{m:List (Int×PStart)}{ds r:List PDeed}{d:PDeed}(h:BrkA m ds (d::r))(ha:ch d.it.kind=true)(hb:(cj (ap (aC m d.act) d ds)).isEmpty=true):BrkA m ds r:=⟨by rw[h.f,s8 ha,HB hb],by rw[h.e];simp only[pD,ZQ ha hb,fw]⟩
theorem BrkA.new{m:List (Int×PStart)}{ds r:List PDeed}{d:PDeed}{n:Nat}(h:BrkA m ds (d::r))(hl:(d::r).length≤ds.length)(ha:ch d.it.kind=true)(hb:(cj (ap (aC m d.act) d ds)).isEmpty=false)(hn:n=(([0]++cj (ap (aC m d.act) d ds)).map aw).length):BrkB m ds r 0 n ([0]++cj (ap (aC m d.act) d ds)):=by
  have:=qL (aC m d.act) d ds
  refine⟨by rw[hn,lM],by(rw[lA];simp only[lC,lN]at *;omega),by rw[h.f,s8 ha,nR],by rw[h.e];show bE m ds d+pD m ds r=_;rw[ZX ha hb]⟩
theorem BrkB.no{m:List (Int×PStart)}{ds r:List PDeed}{d:PDeed}{ep n:Nat}{out:List Int}(h:BrkB m ds (d::r) ep n out)(ha:ch d.it.kind=false):BrkB m ds r ep n out:=⟨h.len,by have:=h.small;simp only[lC]at this;omega,by rw[h.f,JB ha],by rw[h.e];simp only[pD,ZZ ha,fw]⟩
theorem BrkB.nil{m:List (Int×PStart)}{ds r:List PDeed}{d:PDeed}{ep n:Nat}{out:List Int}(h:BrkB m ds (d::r) ep n out)(ha:ch d.it.kind=true)(hb:(cj (ap (aC m d.act) d ds)).isEmpty=true):BrkB m ds r ep n out:=⟨h.len,by have:=h.small;simp only[lC]at this;omega,by rw[h.f,s8 ha,HB hb],by rw[h.e];simp only[pD,ZQ ha hb,fw]⟩
theorem BrkB.new{m:List (Int×PStart)}{ds r:List PDeed}{d:PDeed}{ep n k:Nat}{out:List Int}(h:BrkB m ds (d::r) ep n out)(ha:ch d.it.kind=true)(hb:(cj (ap (aC m d.act) d ds)).isEmpty=false)(hk:k=n+((cj (ap (aC m d.act) d ds)).map aw).length):BrkB m ds r (ep+1) k (out++cj (ap (aC m d.act) d ds)):=by
  have:=qL (aC m d.act) d ds
  refine⟨by rw[hk,h.len,lM,lA],by(have:=h.small;simp only[lA,lC]at *;omega),by rw[h.f,s8 ha,nR],by rw[h.e];simp only[pD,ZX ha hb];omega⟩
theorem BrkB.done{m:List (Int×PStart)}{ds:List PDeed}{ep n:Nat}{out:List Int}(h:BrkB m ds [] ep n out):ep=pD m ds ds-1∧n=([0]++iT m ds ds).length∧out=[0]++iT m ds ds:=by
  have e1:=h.f
  simp only[iT,ef]at e1
  have e2:=h.e
  simp only[pD]at e2
  exact⟨by omega,by rw[e1];exact h.len,e1.symm⟩
theorem N9(gs:List PGaz)(L:List PAct)(ds:List PDeed)(hL:L.length<10000)(hd:ds.length<10000)(ha:kP 67 [.ls (gs.map af)] (.ls (L.map ay)))(hi:kP 68 [.ls (gs.map af)] (.ls (ds.map aY)))(hE:iT (kT L []) ds ds=[]):
    kD 47 [.ls (gs.map af),.func (.func 51) [] [.ptr 0 0 0 0]] (av [ny]) (.tuple []) (av [ny]):=by
  have hlk:=o6
  have hup:=rQ
  have hno:∀{m:List (Int×PStart)}{r:List PDeed}{d:PDeed},iT m ds (d::r)=[]→ch d.it.kind=true→(cj (ap (aC m d.act) d ds)).isEmpty=true:=fun h h2=>by
    rw[s8 h2]at h;rw[(List.append_eq_nil_iff.1 h).1];rfl
  let q1:=[jj [iV 0] true];exact ej Tryz.func47 fun a=>Kp 2 ha<|Kl 0 13 (ln ay L)<|Mg 0<|JI ay L ([]:List (Int×PStart)) [0,1,4,12,13,14] (fun a _ b=>([aW<|gs.map af,bj (bx 51) [] [bU 0 0 0 0],AV.map 1,aW<|L.map ay,nV L.length,nV a],[aZ 1 false 0 [jj [iV 0] true],AObj.map (aT ak b 0) b.length])) (fun a b=>kT L []=kT a b) (by rfl) (fun _ _ b _ _ _ c e=>Kh 0 c<|Kp 0 hi<|Kl 2 27 (ln aY ds)<|Mg 0<|Vk (0:Nat) ds () [1,4,7,26,27,28] (fun a _ _=>([bj (bx 51) [] [bU 0 0 0 0],AV.map 1,aW<|ds.map aY,aW<|ds.map aY,nV ds.length,nV a],[aZ 1 false 0 [jj [iV 0] true],AObj.map (aT ak b 0) b.length])) (fun a c _=>(ds).drop a=c∧iT b ds c=[]) (fun _ a _=>a.length) (et rfl<|by(rw[←show kT L []=b from e];exact hE)) fun c e f g i=>Mc e (fun c=>have e:=eP g.1 c;have:=gv (J:=fun a _=>iT b ds a=[]) (a:=f) c g.2;Kh 0 e<|M1 (.frz 1 []) (et rt ti)<|Mf a) fun a e j=>let k:=[ab [iV a.act,iV a.item,iV a.day,iV a.it.kind,aW<|a.it.at_.map az,aW<|a.it.to.map az,iV a.it.where_,iV a.it.nth_,iV a.it.unit.act,iV a.it.unit.item,iV a.it.unit.n,iV a.it.unit.kind,ax a.it.unit.label,aW<|a.it.unit.head.map aQ,aW<|a.it.unit.words.map aQ,aW<|a.it.unit.kids.map aK,aW<|a.it.old.map m0,aW<|a.it.new.map m0,ax a.it.label,ax a.it.for_,iV a.it.start.kind,iV a.it.start.day,ax a.it.start.event,iV a.it.act,iV a.it.item,iV a.it.day,ax a.it.event,aW<|a.it.by_.map NT]];have l:=fY g.1 j;have:=am l;have n:=eO (enc:=aY) g.1 j;have f:=cw (J:=fun a _=>iT b ds a=[]) (a:=f) j g.2;Kt 0 l<|Mx n<|Kp 5 (jd a.it.kind)<|Mb (ch a.it.kind) (fun _=>K1 4 (.look<|ab [iV (aC b a.act).kind,iV (aC b a.act).day,ax (aC b a.act).event]) (hlk b a.act)<|Kp 1 (gJ (aC b a.act) a ds<|by(omega))<|M3 (.efx true (bO [])<|av [aZ 1 false 0 q1,AObj.map (aT ak b 0) b.length,aZ 28 false 0 k]) (jJ rt (tM b.length 3<|aa (f:=ak) (fun _=>rfl) b 0) rt ti) (jJ (aU<|some<|aZ 28 false 0 k) (aU<|some<|AObj.map (aT ak b 0) b.length) (aU<|some<|aZ 1 false 0 q1) ti) (Xr (aC b a.act) a ds b<|by exact hno f (by assumption))<|Kl 0 46 (dK c)<|K1 0 (.frz 2 [1,4,7,26,27,28]) (cn (tM b.length 2<|aa (f:=ak) (fun _=>rfl) b 0) rt ti)<|Mf<|i (c+1) e () (et (bV g.1 j)<|by(have z:=f;rw[s8 (by assumption)]at z;exact(List.append_eq_nil_iff.1 z).2))<|dn j) fun _=>Kl 0 46 (dK c)<|K1 0 (.frz 2 [1,4,7,26,27,28]) (cn (tM b.length 2<|aa (f:=ak) (fun _=>rfl) b 0) rt ti)<|Mf<|i (c+1) e () (et (bV g.1 j)<|by(have z:=f;rw[JB (by assumption)]at z;exact z))<|dn j) fun a _ b _ _ c e f _ g _ i j=>Kt 0 g<|Mx i<|K1 7 (.upd (aT ak (di c.number c.start b) 0) (di c.number c.start b).length) (hup b c)<|Kl 0 23 (dK a)<|K1 0 (.frz 2 [0,1,4,12,13,14]) (cn (tM (di c.number c.start b).length 2<|aa (f:=ak) (fun _=>rfl) (di c.number c.start b) 0) rt ti)<|Mf<|f (di c.number c.start b)<|by exact j
def AG(gs:List PGaz)(L:List PAct)(x0:Nat×List PAct×List (Int×PStart)):Prop:=(L).drop x0.1=x0.2.1∧kT L []=kT x0.2.1 x0.2.2
noncomputable def qG(gs:List PGaz)(L:List PAct)(x0:Nat×List PAct×List (Int×PStart)):List AV×List AObj:=([AV.ls (gs.map af),AV.func (Fn.func 51) [] [AV.ptr 0 0 0 0],AV.map 1,AV.ls (L.map ay),nV L.length,nV x0.1],[AObj.row 1 false 0 [AV.ps [iV 0] true],AObj.map (aT ak x0.2.2 0) x0.2.2.length])
def AF(ds:List PDeed)(x0:Nat×List PAct×List (Int×PStart))(x1:Nat×List PDeed×Unit):Prop:=(ds).drop x1.1=x1.2.1∧BrkA x0.2.2 ds x1.2.1
noncomputable def qF(ds:List PDeed)(x0:Nat×List PAct×List (Int×PStart))(x1:Nat×List PDeed×Unit):List AV×List AObj:=([AV.func (Fn.func 51) [] [AV.ptr 0 0 0 0],AV.map 1,AV.ls (ds.map aY),AV.ls (ds.map aY),nV ds.length,nV x1.1],[AObj.row 1 false 0 [AV.ps [iV 0] true],AObj.map (aT ak x0.2.2 0) x0.2.2.length])
def AE(ds:List PDeed)(x0:Nat×List PAct×List (Int×PStart))(x1:Nat×List PDeed×Nat×Nat×List Int):Prop:=(ds).drop x1.1=x1.2.1∧BrkB x0.2.2 ds x1.2.1 x1.2.2.1 x1.2.2.2.1 x1.2.2.2.2
noncomputable def AD(ds:List PDeed)(x0:Nat×List PAct×List (Int×PStart))(x1:Nat×List PDeed×Nat×Nat×List Int):List AV×List AObj:=([AV.func (Fn.func 51) [] [AV.ptr 0 0 0 0],AV.map 1,AV.ls (ds.map aY),AV.ls (ds.map aY),nV ds.length,nV x1.1],[AObj.row 1 false 0 [AV.slice 2 x1.2.2.1 0 x1.2.2.2.1 none],AObj.map (aT ak x0.2.2 0) x0.2.2.length,AObj.row 1 true x1.2.2.1 (x1.2.2.2.2.map aw)])
theorem N8(gs:List PGaz)(L:List PAct)(ds:List PDeed)(hL:L.length<10000)(hd:ds.length<10000)(ha:kP 67 [.ls (gs.map af)] (.ls (L.map ay)))(hi:kP 68 [.ls (gs.map af)] (.ls (ds.map aY)))(hE:iT (kT L []) ds ds≠[]):
    kD 47 [.ls (gs.map af),.func (.func 51) [] [.ptr 0 0 0 0]] (av [ny]) (.tuple []) (av [kX 1 (pD (kT L []) ds ds-1) ([0]++iT (kT L []) ds ds).length,lL (pD (kT L []) ds ds-1) ([0]++iT (kT L []) ds ds)]):=by
  have hlk:=o6
  have hup:=rQ
  let q9:=bO [];let q11:=[jj [iV 0] true];exact Oi Tryz.func47<|Kp 2 ha<|Kl 0 13 (ln ay L)<|Mg 0<|ML (Nat×List PAct×List (Int×PStart)) [0,1,4,12,13,14] (qG gs L) (AG gs L) (fun a=>a.2.1.length) (0,L,[]) (aU<|qG gs L (0,L,[])) (et (rfl:List.drop 0 (L)=L) (by rfl:(kT L []=kT L []))) fun a b c=>let d:=some<|AObj.map (aT ak a.2.2 0) a.2.2.length;Mi (fun a b=>kT L []=kT a b) ay b (fun _ b c=>Kh 0 b<|Kp 0 hi<|Kl 2 27 (ln aY ds)<|Mg 0<|MM (Nat×List PDeed×Unit) (Nat×List PDeed×Nat×Nat×List Int) [1,4,7,26,27,28] (qF ds a) (AD ds a) (AF ds a) (AE ds a) (fun a=>a.2.1.length) (fun a=>a.2.1.length) (.inl (0,ds,())) (aU<|qF ds a (0,ds,())) (et (rfl:List.drop 0 (ds)=ds) (by(exact⟨rfl,rfl⟩):(BrkA a.2.2 ds ds))) (fun b e f=>Mc b.2.1 (fun d=>have f:=eP e.1 d;have b:=gv (J:=fun b _=>BrkA a.2.2 ds b) (a:=b.2.2) d e.2;Kh 0 f<|Mw .abs (by exact hE (by rw[show kT L []=a.2.2 from c];exact b.f):False)) fun c g h=>let i:=[ab [iV c.act,iV c.item,iV c.day,iV c.it.kind,aW<|c.it.at_.map az,aW<|c.it.to.map az,iV c.it.where_,iV c.it.nth_,iV c.it.unit.act,iV c.it.unit.item,iV c.it.unit.n,iV c.it.unit.kind,ax c.it.unit.label,aW<|c.it.unit.head.map aQ,aW<|c.it.unit.words.map aQ,aW<|c.it.unit.kids.map aK,aW<|c.it.old.map m0,aW<|c.it.new.map m0,ax c.it.label,ax c.it.for_,iV c.it.start.kind,iV c.it.start.day,ax c.it.start.event,iV c.it.act,iV c.it.item,iV c.it.day,ax c.it.event,aW<|c.it.by_.map NT]];let j:=ab [iV (aC a.2.2 c.act).kind,iV (aC a.2.2 c.act).day,ax (aC a.2.2 c.act).event];let k:=List.map aw<|[0]++cj (ap (aC a.2.2 c.act) c ds);have l:=fY e.1 h;have:=am l;have m:=eO (enc:=aY) e.1 h;have n:=cw (J:=fun b _=>BrkA a.2.2 ds b) (a:=b.2.2) h e.2;Kt 0 l<|Mx m<|Kp 5 (jd c.it.kind)<|Mb (ch c.it.kind) (fun _=>Ms (cj<|ap (aC a.2.2 c.act) c ds).isEmpty (fun k=>K1 4 (.look j) (hlk a.2.2 c.act)<|Kp 1 (gJ (aC a.2.2 c.act) c ds<|by(omega))<|M3 (.efx true q9<|av [aZ 1 false 0 q11,AObj.map (aT ak a.2.2 0) a.2.2.length,aZ 28 false 0 i]) (jJ rt (tM a.2.2.length 3<|aa (f:=ak) (fun _=>rfl) a.2.2 0) rt ti) (jJ (aU<|some<|aZ 28 false 0 i) (aU d) (aU<|some<|aZ 1 false 0 q11) ti) (Xp (aC a.2.2 c.act) c ds a.2.2 k)<|Kl 0 46 (dK b.1)<|K1 0 (.frz 2 [1,4,7,26,27,28]) (cn (tM a.2.2.length 2<|aa (f:=ak) (fun _=>rfl) a.2.2 0) rt ti)<|Mf<|f (.inl (b.1+1,g,())) (et (bV e.1 h) (by exact n.nil (by assumption) (by assumption):(BrkA a.2.2 ds g)))<|dn h) fun d=>K1 4 (.look j) (hlk a.2.2 c.act)<|Kp 1 (gJ (aC a.2.2 c.act) c ds<|by(omega))<|M3 (.efx false q9<|av [aZ 1 false 0 [aN 3 0 0 k.length none],AObj.map (aT ak a.2.2 0) a.2.2.length,aZ 28 false 0 i,aZ 1 true 0 k]) (jJ rt (tM a.2.2.length 3<|aa (f:=ak) (fun _=>rfl) a.2.2 0) rt ti) ti (Xo (aC a.2.2 c.act) c ds a.2.2 d)<|Kl 0 46 (dK b.1)<|Mg 0<|M2 (.ren [0,1,3,2] [1,3] [1,4,7,26,27,28]) (tN a.2.2.length<|aa (f:=ak) (fun _=>rfl) a.2.2 0) (tS 1 true 0<|aX Ji<|[0]++cj (ap (aC a.2.2 c.act) c ds))<|M1 (.frz 3 [1,4,7,26,27,28]) (jJ (tR 1 true 0 3<|aX Ji<|[0]++cj (ap (aC a.2.2 c.act) c ds)) (tM a.2.2.length 3<|aa (f:=ak) (fun _=>rfl) a.2.2 0) rt ti)<|Mf<|f (.inr (b.1+1,g,(0,k.length,[0]++cj (ap (aC a.2.2 c.act) c ds)))) (et (bV e.1 h) (by exact n.new (Im (e.1.trans h)) (by assumption) (by assumption) rfl:(BrkB a.2.2 ds g (0:Nat) (([(0:Int)]++cj (ap (aC a.2.2 c.act) c ds)).map aw).length ([(0:Int)]++cj (ap (aC a.2.2 c.act) c ds)))))<|dn h) fun _=>Kl 0 46 (dK b.1)<|K1 0 (.frz 2 [1,4,7,26,27,28]) (cn (tM a.2.2.length 2<|aa (f:=ak) (fun _=>rfl) a.2.2 0) rt ti)<|Mf<|f (.inl (b.1+1,g,())) (et (bV e.1 h) (by exact n.no (by assumption):(BrkA a.2.2 ds g)))<|dn h) fun b e f=>let g:=[aN 2 b.2.2.1 0 b.2.2.2.1 none];let h:=List.map aw b.2.2.2.2;Mc b.2.1 (fun d=>have f:=eP e.1 d;have d:=gv (J:=fun b c=>BrkB a.2.2 ds b c.1 c.2.1 c.2.2) (a:=b.2.2) d e.2;Kh 0 f<|M2 (.ren [0,2,1] [2,1] []) (tS 1 true b.2.2.1<|aX Ji b.2.2.2.2) (tN a.2.2.length<|aa (f:=ak) (fun _=>rfl) a.2.2 0)<|M1 (.frz 2 []) (cn (tR 1 true b.2.2.1 2<|aX Ji b.2.2.2.2) rt ti)<|Mf<|et (aU q9) (by(have q:=d.done;rw[show kT L []=a.2.2 from c,q.1,q.2.1,q.2.2]):(av [AObj.row 1 false 0 [AV.slice 1 b.2.2.1 0 b.2.2.2.1 none],AObj.row 1 true b.2.2.1 (b.2.2.2.2.map aw)])=(av [kX 1 (pD (kT L []) ds ds-1) ([0]++iT (kT L []) ds ds).length,lL (pD (kT L []) ds ds-1) ([0]++iT (kT L []) ds ds)]))) fun c i j=>let k:=[ab [iV c.act,iV c.item,iV c.day,iV c.it.kind,aW<|c.it.at_.map az,aW<|c.it.to.map az,iV c.it.where_,iV c.it.nth_,iV c.it.unit.act,iV c.it.unit.item,iV c.it.unit.n,iV c.it.unit.kind,ax c.it.unit.label,aW<|c.it.unit.head.map aQ,aW<|c.it.unit.words.map aQ,aW<|c.it.unit.kids.map aK,aW<|c.it.old.map m0,aW<|c.it.new.map m0,ax c.it.label,ax c.it.for_,iV c.it.start.kind,iV c.it.start.day,ax c.it.start.event,iV c.it.act,iV c.it.item,iV c.it.day,ax c.it.event,aW<|c.it.by_.map NT]];let l:=ab [iV (aC a.2.2 c.act).kind,iV (aC a.2.2 c.act).day,ax (aC a.2.2 c.act).event];let m:=List.map aw<|cj<|ap (aC a.2.2 c.act) c ds;have n:=fY e.1 j;have:=am n;have o:=eO (enc:=aY) e.1 j;have p:=cw (J:=fun b c=>BrkB a.2.2 ds b c.1 c.2.1 c.2.2) (a:=b.2.2) j e.2;Kt 0 n<|Mx o<|Kp 5 (jd c.it.kind)<|Mb (ch c.it.kind) (fun _=>Ms (cj<|ap (aC a.2.2 c.act) c ds).isEmpty (fun m=>K1 4 (.look l) (hlk a.2.2 c.act)<|Kp 1 (gJ (aC a.2.2 c.act) c ds<|by(omega))<|M3 (.efx true q9<|av [aZ 1 false 0 g,AObj.map (aT ak a.2.2 0) a.2.2.length,aZ 1 true b.2.2.1 h,aZ 28 false 0 k]) (xV rt (tR 1 true b.2.2.1 4<|aX Ji b.2.2.2.2) (tM a.2.2.length 4<|aa (f:=ak) (fun _=>rfl) a.2.2 0) rt ti) (xV (aU<|some<|aZ 28 false 0 k) (aU<|some<|aZ 1 true b.2.2.1 h) (aU d) (aU<|some<|aZ 1 false 0 g) ti) (Xn (aC a.2.2 c.act) c ds a.2.2 b.2.2.1 b.2.2.2.1 b.2.2.2.2 m)<|Kl 0 46 (dK b.1)<|K1 0 (.frz 3 [1,4,7,26,27,28]) (jJ (tR 1 true b.2.2.1 3<|aX Ji b.2.2.2.2) (tM a.2.2.length 3<|aa (f:=ak) (fun _=>rfl) a.2.2 0) rt ti)<|Mf<|f (.inr (b.1+1,i,(b.2.2.1,b.2.2.2.1,b.2.2.2.2))) (et (bV e.1 j) (by exact p.nil (by assumption) (by assumption):(BrkB a.2.2 ds i b.2.2.1 b.2.2.2.1 b.2.2.2.2)))<|dn j) fun d=>K1 4 (.look l) (hlk a.2.2 c.act)<|Kp 1 (gJ (aC a.2.2 c.act) c ds<|by(omega))<|M3 (.efx false q9<|av [aZ 1 false 0 [aN 2 (b.2.2.1+1) 0 (b.2.2.2.1+m.length) none],AObj.map (aT ak a.2.2 0) a.2.2.length,aZ 1 true (b.2.2.1+1)<|(b.2.2.2.2++cj (ap (aC a.2.2 c.act) c ds)).map aw,aZ 28 false 0 k]) (xV rt (tR 1 true b.2.2.1 4<|aX Ji b.2.2.2.2) (tM a.2.2.length 4<|aa (f:=ak) (fun _=>rfl) a.2.2 0) rt ti) ti (Xm (aC a.2.2 c.act) c ds a.2.2 b.2.2.1 b.2.2.2.1 b.2.2.2.2 d (by exact p.len)<|by(have z:=p.small;have z2:=p.len;have z3:=Im (e.1.trans j);simp only[lC]at z z3;omega))<|Kl 0 46 (dK b.1)<|K1 0 (.frz 3 [1,4,7,26,27,28]) (jJ (tR 1 true (b.2.2.1+1) 3<|aX Ji<|b.2.2.2.2++cj (ap (aC a.2.2 c.act) c ds)) (tM a.2.2.length 3<|aa (f:=ak) (fun _=>rfl) a.2.2 0) rt ti)<|Mf<|f (.inr (b.1+1,i,(b.2.2.1+1,b.2.2.2.1+m.length,b.2.2.2.2++cj (ap (aC a.2.2 c.act) c ds)))) (et (bV e.1 j) (by exact p.new (by assumption) (by assumption) rfl:(BrkB a.2.2 ds i (b.2.2.1+1) (b.2.2.2.1+m.length) (b.2.2.2.2++cj (ap (aC a.2.2 c.act) c ds)))))<|dn j) fun _=>Kl 0 46 (dK b.1)<|K1 0 (.frz 3 [1,4,7,26,27,28]) (jJ (tR 1 true b.2.2.1 3<|aX Ji b.2.2.2.2) (tM a.2.2.length 3<|aa (f:=ak) (fun _=>rfl) a.2.2 0) rt ti)<|Mf<|f (.inr (b.1+1,i,(b.2.2.1,b.2.2.2.1,b.2.2.2.2))) (et (bV e.1 j) (by exact p.no (by assumption):(BrkB a.2.2 ds i b.2.2.1 b.2.2.2.1 b.2.2.2.2)))<|dn j) fun d e f g _ h i=>Kt 0 g<|Mx h<|K1 7 (.upd (aT ak (di d.number d.start a.2.2) 0) (di d.number d.start a.2.2).length) (hup a.2.2 d)<|Kl 0 23 (dK a.1)<|K1 0 (.frz 2 [0,1,4,12,13,14]) (cn (tM (di d.number d.start a.2.2).length 2<|aa (f:=ak) (fun _=>rfl) (di d.number d.start a.2.2) 0) rt ti)<|Mf<|c (a.1+1,e,di d.number d.start a.2.2) (et (bV b.1 f) (by exact i:(kT L []=kT e (di d.number d.start a.2.2))))<|dn f
theorem Gg(zs:List Int)(ep n:Nat)(hn:n=zs.length)(hz:0<zs.length)(hb:zs.length<2^40):
    kD 53 [.slice 1 ep 0 n none] (av [kX 1 ep n,lL ep zs]) (.tuple []) (av [kX 1 ep n,lL ep (be zs)]):=by
  subst hn
  exact(r8 (Go.Proofs.Tryz.lsort.f5.enters rfl) (fun blk off cap zs w hH hb hs=>Go.Proofs.AnyM.slices_Sort_int Go.Proofs.Tryz.lsort blk off cap zs w hH hb hs) zs (h:=av [kX 1 ep zs.length,lL ep zs]) (id:=1) (op:=true) rfl hz (by omega)).mono fun v h ⟨h3,h4⟩=>⟨h3,h4.trans rfl⟩
theorem AQ(zs:List Int)(ep n:Nat)(hn:n=zs.length)(hz:0<zs.length)(hb:zs.length<2^40):
    kD 54 [.slice 1 ep 0 n none] (av [kX 1 ep n,lL ep zs]) (.slice 1 ep 0 (an zs).length none) (av [kX 1 ep n,lL ep (an zs++List.replicate (zs.length-(an zs).length) 0)]):=by
  subst hn
  exact(ov (Go.Proofs.Tryz.lcompact.f43.enters rfl) (fun blk off cap zs w hH hb hs=>Go.Proofs.AnyG.slices_Compact_int Go.Proofs.Tryz.lcompact blk off cap zs w hH hb hs) zs (h:=av [kX 1 ep zs.length,lL ep zs]) (id:=1) (op:=true) rfl hz (by omega)).mono fun v h ⟨h3,h4⟩=>⟨h3,h4.trans rfl⟩
noncomputable def Vd:Option (AV×AHeap)→Bool
  |some (.tuple [],_)=>true
  |_=>false
noncomputable def Vc:Option (AV×AHeap)→Bool
  |some (.ps [.int .i64 n] true,_)=>al n 0
  |_=>false
theorem U0{f:FuncId}{a:List AV}(k:Nat)(ht:aq a=0)(h:Vd (iC C k f a AHeap.none)=true):kP f a (.tuple []):=by
  cases hx:iC C k f a AHeap.none with
  |none=>rw[hx]at h;cases h
  | some r=>
    obtain⟨v,h1⟩:=r
    rw[hx]at h
    have e:v=.tuple []:=by
      unfold Vd at h
      split at h
      · rename_i q;cases q;rfl
      · cases h
    subst e
    exact me jU ht rfl ((aL.of (ev k) hx).mono fun v1 _ e=>e.1)
theorem UT{f:FuncId}{a:List AV}(k:Nat)(ht:aq a=0)(h:Vc (iC C k f a AHeap.none)=true):bW Tryz.prog G f a (.ps [.int .i64 0] true):=by
  cases hx:iC C k f a AHeap.none with
  |none=>rw[hx]at h;cases h
  | some r=>
    obtain⟨v,h1⟩:=r
    rw[hx]at h
    have e:v=.ps [.int .i64 0] true:=by
      unfold Vc at h
      split at h
      · rename_i q;cases q;rw[iX h]
      · cases h
    subst e
    exact me jU ht rfl ((aL.of (ev k) hx).mono fun v1 _ e=>e.1)
theorem Px:kP 53 [.ps [iV 0] true] (.tuple []):=U0 60 rfl (by kernel_rfl)
theorem Hm:bW Tryz.prog G 54 [.ps [.int .i64 0] true] (.ps [.int .i64 0] true):=UT 60 rfl (by kernel_rfl)
theorem Z5(gs:List PGaz)(hc:kD 47 [.ls (gs.map af),.func (.func 51) [] [.ptr 0 0 0 0]] (av [ny]) (.tuple []) (av [ny])):kP 31 [.ls (gs.map af)] (.ls (([0]:List Int).map aw)):=by
  exact bD Tryz.func31<|Ke 5 hc<|Kp 0 Px<|Kp 0 Hm<|Kf 0 (fg [iV 0] _<|by rfl:Le _ (AV.ps [iV 0] true))
theorem MD(X:List Int):(be X).length=X.length:=(List.mergeSort_perm X _).length_eq
theorem Z4(gs:List PGaz)(X:List Int)(k:Nat)(hz:0<X.length)(hb:X.length<2^40)(hc:kD 47 [.ls (gs.map af),.func (.func 51) [] [.ptr 0 0 0 0]] (av [ny]) (.tuple []) (av [kX 1 k X.length,lL k X])):kP 31 [.ls (gs.map af)] (.ls ((an (be X)).map aw)):=by
  have hs:=MD X
  have rr0 b' (h:((an (be X)).map aw)=b':=by(rw[List.take_left'];rfl)):=h;exact bD Tryz.func31<|Ke 5 hc<|Ke 0 (Gg X k X.length (by(omega)) hz hb)<|Ke 0 (AQ (be X) k X.length (by(omega)) (by(omega))<|by(omega))<|Mg 0<|M2 (.fsl 0 [] 2<|((an (be X)++List.replicate ((be X).length -(an<|be X).length) 0).take (an<|be X).length).map aw) ti (cn (aU k) (yD (f:=aw) (l:=an (be X)++List.replicate ((be X).length -(an<|be X).length) 0) (n:=(an<|be X).length))<|aX Ji<|(an (be X)++List.replicate ((be X).length -(an<|be X).length) 0).take (an<|be X).length)<|Ml 2 (fg (((an (be X)++List.replicate ((be X).length -(an<|be X).length) 0).take (an<|be X).length).map aw) false<|aX Ji<|(an (be X)++List.replicate ((be X).length -(an<|be X).length) 0).take (an<|be X).length)<|Mf<|cK<|rr0<|((an (be X)++List.replicate ((be X).length -(an<|be X).length) 0).take (an<|be X).length).map aw
theorem Hl:an (be [0])=[0]:=by
  have e:be [0]=[0]:=List.mergeSort_singleton 0
  rw[e];rfl
/-- The program's days: in order, each once. -/
theorem Y8(gs:List PGaz)(L:List PAct)(ds:List PDeed)(hL:L.length<10000)(hd:ds.length<10000)(ha:kP 67 [.ls (gs.map af)] (.ls (L.map ay)))(hi:kP 68 [.ls (gs.map af)] (.ls (ds.map aY))):
    kP 31 [.ls (gs.map af)] (.ls ((an (be ([0]++iT (kT L []) ds ds))).map aw)):=by
  by_cases hE:iT (kT L []) ds ds=[]
  · have h:=Z5 gs (N9 gs L ds hL hd ha hi hE)
    rw[hE]
    have e:an (be ([0]++[]))=[0]:=Hl
    rw[e];exact h
  · have hl:∀(r:List PDeed),(iT (kT L []) ds r).length≤2^22*r.length:=by
      intro r
      induction r with
      |nil=>exact au _
      | cons d r ih=>
        have h1:(Bt (kT L []) ds d).length≤2^22:=by
          unfold Bt
          cases ch d.it.kind
          · exact bH _
          · exact qL _ _ _
        simp only[iT,lA,lC];omega
    have:=hl ds
    exact Z4 gs ([0]++iT (kT L []) ds ds) (pD (kT L []) ds ds-1) (by simp) (by rw[lA];simp only[lC,lN];omega) (N8 gs L ds hL hd ha hi hE)
/-- What the amendments' days begin and end; in order, each once. -/
noncomputable def Z6(gs:List PGaz):List Int:=iT (kT (gu gs) []) (px gs) (px gs)
noncomputable def kc(gs:List PGaz):List Int:=an (be ([0]++Z6 gs))
theorem OkG.brk{gs:List PGaz}(h:OkG gs):kP 31 [.ls (gs.map af)] (.ls ((kc gs).map aw)):=by
  have hl:=h.lens
  exact Y8 gs _ _ (by omega) (by omega) h.all.1 h.all.2
theorem HI:∀{l:List PSpan},(∀s,s∈l→0≤s.from_∧s.from_<s.to∧s.to≤1048577)→∀z,z∈cj l→0≤z∧z<1048577
  | s::r,h,z,hz=>by
    have hs:=h s (eW ..)
    rw[cj]at hz
    rcases jA.1 hz with q|q
    · unfold HL at q
      cases e:ao s.to 1048577<;>rw[e]at q
      · simp at q;omega
      · have:=am e;simp at q;omega
    · exact HI (fun x hx=>h x (eJ _ hx)) z q
theorem LO(m:List (Int×PStart))(ds:List PDeed):∀(r:List PDeed)(z:Int),z∈iT m ds r→0≤z∧z<1048577
  | d::r,z,hz=>by
    rw[iT]at hz
    rcases jA.1 hz with q|q
    · unfold Bt at q
      cases e:ch d.it.kind<;>rw[e]at q
      · cases q
      · exact HI (jL _ _ _).ok z q
    · exact LO m ds r z q
theorem Dc{l:List Int}{z:Int}:z∈an (be l)↔z∈l:=((s7 (oG l)).2 z).trans (jl l).mem_iff
theorem Ib(l:List Int):(an (be l)).Pairwise (fun a b=>a<b):=(s7 (oG l)).1
theorem py(gs:List PGaz):∀z,z∈kc gs→0≤z∧z<1048577:=fun z hz=>by
  rcases jA.1 (Dc.1 hz)with q|q
  · rw[ph]at q;omega
  · exact LO _ _ _ z q
theorem R4(gs:List PGaz):(0:Int)∈kc gs:=Dc.2 (BE _ (ph.2 rfl))
theorem Xs{gs:List PGaz}{z:Int}(h:z∈Z6 gs):z∈kc gs:=Dc.2 (wV _ h)
theorem FE:∀{l:List Int}{lo hi:Int},l.Pairwise (fun a b=>a<b)→(∀z,z∈l→lo≤z∧z<hi)→lo≤hi→(Int.ofNat l.length)≤hi-lo
  |[],lo,hi,_,_,h=>by simp only[lN,oN];omega
  | a::r,lo,hi,hp,hb,h=>by
    obtain⟨h1,h2⟩:=gT.1 hp
    obtain⟨q1,q2⟩:=hb a (eW ..)
    have:=FE (lo:=a+1) (hi:=hi) h2 (fun z hz=>⟨by have:=h1 z hz;omega,(hb z (eJ _ hz)).2⟩) (by omega)
    simp only[lC,oN]at *;omega
theorem qH(gs:List PGaz):(kc gs).length≤1048577:=by
  have:=FE (Ib _) (py gs) (by omega)
  simp only[oN]at this
  show(an (be ([0]++Z6 gs))).length≤_
  omega
theorem LR:∀{l:List PSpan}{s:PSpan},s∈l→s.from_∈cj l∧(ao s.to 1048577=true→s.to∈cj l)
  | a::r,s,h=>by
    rw[cj]
    rcases ez.1 h with rfl|h
    · cases e:ao s.to 1048577 with
      |true=>rw[AP e];simp
      |false=>rw[AR e];simp
    · obtain⟨k1,k2⟩:=LR h
      exact⟨wV _ k1,fun e=>wV _ (k2 e)⟩
/-- Between boundaries nothing changes: of spans, of what is in force, of the book. -/
theorem Nc{l:List PSpan}(h:NrmS l){x y d:Int}(hz:∀z,z∈cj l→z≤x∨y≤z)(hy:y≤1048577)(h1:x≤d)(h2:d<y):gI l d=gI l x:=by
  rw[DI h,DI h]
  have key:∀s,s∈l→((s.from_≤d∧d<s.to)↔(s.from_≤x∧x<s.to)):=fun s hs=>by
    obtain⟨k1,k2⟩:=LR hs
    have k3:=hz _ k1
    have k4:=(h.ok s hs).2.2
    cases e:ao s.to 1048577 with
    |true=>have:=hz _ (k2 e);omega
    |false=>have:=aB e;omega
  rw[Bq,hJ,hJ]
  grind
theorem Ca(p:aI)(m:List (Int×PStart))(ds:List PDeed){x y d:Int}(hy:y≤1048577)(h1:x≤d)(h2:d<y):∀(r:List PDeed),(∀z,z∈iT m ds r→z≤x∨y≤z)→qv d p m ds r=qv x p m ds r
  |[],_=>rfl
  | e::r,h=>by
    have ih:=Ca p m ds hy h1 h2 r fun z hz=>h z (by rw[iT];exact wV _ hz)
    cases ha:ch e.it.kind with
    |false=>rw[F0 ha,F0 ha,ih]
    | true=>
      have hb:wE d p m ds e=wE x p m ds e:=by
        unfold wE
        rw[Nc (jL _ _ _) (fun z hz=>h z (by rw[s8 ha];exact BE _ hz)) hy h1 h2]
      cases q:wE x p m ds e with
      |true=>rw[FT ha q,FT ha (hb.trans q),ih]
      |false=>rw[Cy q,Cy (hb.trans q),ih]
theorem KP(p:aI)(m:List (Int×PStart))(ds:List PDeed){d:Int}(h:d<0∨1048576<d):∀(r:List PDeed),qv d p m ds r=[]
  |[]=>rfl
  | e::r=>by
    have ih:=KP p m ds h r
    have hb:wE d p m ds e=false:=by
      unfold wE
      rw[QV (jL _ _ _) h,wj]
    rw[Cy hb,ih]
theorem AM(gs:List PGaz)(p:aI){d:Int}(h:d<0∨1048576<d):aH d p gs=vW:=by
  unfold aH
  rw[show qp d p gs=[]from KP p _ _ h _];rfl
theorem s9(gs:List PGaz)(p:aI){x y d:Int}(hz:∀z,z∈kc gs→z≤x∨y≤z)(hy:y≤1048577)(h1:x≤d)(h2:d<y):aH d p gs=aH x p gs:=by
  unfold aH
  rw[show qp d p gs=qp x p gs from Ca p _ _ hy h1 h2 _ fun z h=>hz z (Xs h)]
/-- How many points lie at or before a day. -/
def zH(d:Int):List Int→Int
  |[]=>0
  |z::r=>match ao d z with|true=>zH d r|false=>zH d r+1
theorem sZ{d z:Int}{r:List Int}(h:ao d z=false):zH d (z::r)=zH d r+1:=by simp only[zH,h]
theorem wN{d z:Int}{r:List Int}(h:ao d z=true):zH d (z::r)=zH d r:=by simp only[zH,h]
theorem Vp(d:Int):∀(l:List Int),0≤zH d l
  |[]=>wY _
  | z::r=>by
    have:=Vp d r
    cases h:ao d z with
    |true=>rw[wN h];exact this
    |false=>rw[sZ h];omega
theorem Gx{d e:Int}(h:d≤e):∀(l:List Int),zH d l≤zH e l
  |[]=>wY _
  | z::r=>by
    have:=Gx h r
    cases h1:ao d z with
    | true=>
      rw[wN h1]
      cases h2:ao e z with
      |true=>rw[wN h2];exact this
      |false=>rw[sZ h2];omega
    | false=>
      have h2:ao e z=false:=iQ (by have:=aB h1;omega)
      rw[sZ h1,sZ h2];omega
theorem zG{d e:Int}(h:d≤e):∀(l:List Int),zH d l=zH e l→∀z,z∈l→z≤d∨e+1≤z
  |[],_,z,hz=>by cases hz
  | y::r,hq,z,hz=>by
    have hm:=Gx h r
    have key:zH d r=zH e r∧(y≤d∨e+1≤y):=by
      cases h1:ao d y with
      | true=>
        have z1:=am h1
        cases h2:ao e y with
        |true=>have:=am h2;rw[wN h1,wN h2]at hq;exact⟨hq,.inr (by omega)⟩
        |false=>rw[wN h1,sZ h2]at hq;omega
      | false=>
        have z1:=aB h1
        have h2:ao e y=false:=iQ (by omega)
        rw[sZ h1,sZ h2]at hq
        exact⟨by omega,.inl z1⟩
    rcases ez.1 hz with rfl|hz
    · exact key.2
    · exact zG h r key.1 z hz
theorem DR{d:Int}:∀{l:List Int}{z:Int},z∈l→z≤d→1≤zH d l
  | y::r,z,hz,hd=>by
    rcases ez.1 hz with rfl|hz
    · have:=Vp d r;rw[sZ (iQ (by omega))];omega
    · have:=DR hz hd
      cases h:ao d y with
      |true=>rw[wN h];exact this
      |false=>rw[sZ h];omega
/-- The interval of a day. -/
def Gy(d:Int)(l:List Int):Int:=match ao d 0||ao 1048576 d with|true=> -1|false=>zH d l-1
theorem yK{d:Int}{l:List Int}(h:(ao d 0||ao 1048576 d)=true):Gy d l= -1:=by simp only[Gy,h]
theorem zS{d:Int}{l:List Int}(h:(ao d 0||ao 1048576 d)=false):Gy d l=zH d l-1:=by simp only[Gy,h]
theorem tI{d:Int}:(ao d 0||ao 1048576 d)=true↔(d<0∨1048576<d):=by
  rw[rL]
  exact⟨fun h=>h.imp am am,fun h=>h.imp jy jy⟩
/-- Days of one interval have one book. -/
theorem T2(gs:List PGaz)(p:aI){d e:Int}(h:Gy d (kc gs)=Gy e (kc gs)):aH d p gs=aH e p gs:=by
  cases hd:(ao d 0||ao 1048576 d)with
  | true=>
    cases he:(ao e 0||ao 1048576 e)with
    |true=>rw[AM gs p (tI.1 hd),AM gs p (tI.1 he)]
    | false=>
      rw[yK hd,zS he]at h
      have he2:¬(e<0∨1048576<e):=fun q=>by rw[tI.2 q]at he;cases he
      have:=DR (d:=e) (R4 gs) (by omega)
      omega
  | false=>
    have hd2:¬(d<0∨1048576<d):=fun q=>by rw[tI.2 q]at hd;cases hd
    cases he:(ao e 0||ao 1048576 e)with
    | true=>
      rw[zS hd,yK he]at h
      have:=DR (d:=d) (R4 gs) (by omega)
      omega
    | false=>
      have he2:¬(e<0∨1048576<e):=fun q=>by rw[tI.2 q]at he;cases he
      rw[zS hd,zS he]at h
      rcases Int.le_total d e with q|q
      · exact(s9 gs p (y:=e+1) (zG q _ (by omega)) (by omega) q (by omega)).symm
      · exact s9 gs p (y:=d+1) (zG q _ (by omega)) (by omega) q (by omega)
/-- The days on which the book changes. -/
noncomputable def nN(b:Int→TUnit)(a:TUnit):List Int→List Int
  |[]=>[]
  |d::r=>match lP (b d) a with|true=>nN b (b d) r|false=>d::nN b (b d) r
theorem LM{b:Int→TUnit}{a:TUnit}{d:Int}{r:List Int}(h:lP (b d) a=false):nN b a (d::r)=d::nN b (b d) r:=by simp only[nN,h]
theorem LN{b:Int→TUnit}{a:TUnit}{d:Int}{r:List Int}(h:lP (b d) a=true):nN b a (d::r)=nN b (b d) r:=by simp only[nN,h]
theorem uM(b:Int→TUnit):∀(l:List Int)(a:TUnit),(nN b a l).Sublist l
  |[],_=>.slnil
  | d::r,a=>by
    have ih:=uM b r (b d)
    cases h:lP (b d) a with
    |true=>rw[LN h];exact ih.cons d
    |false=>rw[LM h];exact ih.cons_cons d
noncomputable def iP(p:aI)(gs:List PGaz):List Int:=nN (fun d=>aH d p gs) (aH (-1) p gs) (kc gs)
theorem LL(p:aI)(gs:List PGaz):(iP p gs).Pairwise (fun a b=>a<b):=(Ib _).sublist (uM _ _ _)
theorem uI{p:aI}{gs:List PGaz}{z:Int}(h:z∈iP p gs):z∈kc gs:=(uM _ _ _).subset h
theorem HA(p:aI)(gs:List PGaz):(iP p gs).length≤1048577:=bT (uM _ _ _).length_le (qH gs)
/-- The last up to a day; the first behind it. -/
def gm(d:Int):List Int→Int→Int
  |[],x=>x
  |z::r,x=>match ao d z with|true=>gm d r x|false=>gm d r z
theorem qg{d z x:Int}{r:List Int}(h:ao d z=false):gm d (z::r) x=gm d r z:=by simp only[gm,h]
theorem pQ{d z x:Int}{r:List Int}(h:ao d z=true):gm d (z::r) x=gm d r x:=by simp only[gm,h]
theorem zL{d:Int}:∀{l:List Int}(x:Int),(∀z,z∈l→d<z)→gm d l x=x
  |[],_,_=>rfl
  |z::r,x,h=>by rw[pQ (jy (h z (eW ..)))];exact zL x fun y hy=>h y (eJ _ hy)
/-- Either nothing lies up to the day, or one of the list does, at the end. -/
theorem rk(d:Int):∀(l:List Int)(x:Int),(gm d l x=x∧∀z,z∈l→d<z)∨((∀y,gm d l y=gm d l x)∧gm d l x∈l∧gm d l x≤d)
  |[],x=>.inl ⟨rfl,fun z hz=>by cases hz⟩
  | z::r,x=>by
    cases h:ao d z with
    | true=>
      rcases rk d r x with⟨q1,q2⟩|⟨q1,q2,q3⟩
      · refine .inl ⟨by rw[pQ h];exact q1,fun y hy=>?_⟩
        rcases ez.1 hy with rfl|hy
        · exact am h
        · exact q2 y hy
      · exact .inr ⟨fun y=>by rw[pQ h,pQ h];exact q1 y,by rw[pQ h];exact eJ _ q2,by rw[pQ h];exact q3⟩
    | false=>
      have hz:=aB h
      refine .inr ⟨fun y=>by rw[qg h,qg h],?_,?_⟩
      · rw[qg h]
        rcases rk d r z with⟨q1,_⟩|⟨_,q2,_⟩
        · rw[q1];exact eW ..
        · exact eJ _ q2
      · rw[qg h]
        rcases rk d r z with⟨q1,_⟩|⟨_,_,q3⟩
        · rw[q1];exact hz
        · exact q3
theorem Vr{b:Int→TUnit}:∀(l:List Int)(x:Int),(x::l).Pairwise (fun a b=>a<b)→(∀u v d,(∀z,z∈x::l→z≤u∨v≤z)→v≤1048577→x≤u→u≤d→d<v→b d=b u)→∀d,x≤d→d≤1048576→b d=b (gm d (nN b (b x) l) x)
  |[],x,_,hc,d,h1,h2=>hc x (d+1) d (fun z hz=>by rw[ph]at hz;omega) (by omega) (wY _) h1 (by omega)
  | c::r,x,hp,hc,d,h1,h2=>by
    obtain⟨p1,p2⟩:=gT.1 hp
    obtain⟨p3,_⟩:=gT.1 p2
    have hxc:=p1 c (eW ..)
    rcases Int.lt_or_le d c with q|q
    · have e:gm d (nN b (b x) (c::r)) x=x:=zL x fun z hz=>by
        rcases ez.1 ((uM b _ _).subset hz)with k|k
        · omega
        · have:=p3 z k;omega
      rw[e]
      exact hc x (d+1) d (fun z hz=>by
        rcases ez.1 hz with k|k
        · omega
        · rcases ez.1 k with k|k
          · omega
          · have:=p3 z k;omega) (by omega) (wY _) h1 (by omega)
    · have ih:=Vr r c p2 (fun u v d hz hv hu h3 h4=>hc u v d (fun z hz2=>by
        rcases ez.1 hz2 with k|k
        · omega
        · exact hz z k) hv (by omega) h3 h4) d q h2
      cases he:lP (b c) (b x)with
      |false=>rw[LM he,qg (iQ q)];exact ih
      | true=>
        have hbc:=(uc _ _).1 he
        rw[LN he]
        rcases rk d (nN b (b c) r) x with⟨q1,q2⟩|⟨q1,_,_⟩
        · rw[q1,←hbc,ih,zL c q2]
        · rw[←q1 c];exact ih
theorem RR {b:Int→TUnit}:∀(l:List Int)(x:Int),(x::l).Pairwise (fun a b=>a<b)→(∀c,c∈l→c≤1048577)→(∀u v d,(∀z,z∈x::l→z≤u∨v≤z)→v≤1048577→x≤u→u≤d→d<v→b d=b u)→∀n,n∈nN b (b x) l→lP (b n) (b (n-1))=false
  |[],x,_,_,_,n,hn=>by cases hn
  | c::r,x,hp,hm,hc,n,hn=>by
    obtain⟨p1,p2⟩:=gT.1 hp
    obtain⟨p3,_⟩:=gT.1 p2
    have hxc:=p1 c (eW ..)
    have hr:=fun n hn=>RR (b:=b) r c p2 (fun z hz=>hm z (eJ _ hz)) (fun u v d hz hv hu h3 h4=>hc u v d (fun z hz2=>by
        rcases ez.1 hz2 with k|k
        · omega
        · exact hz z k) hv (by omega) h3 h4) n hn
    cases he:lP (b c) (b x)with
    |true=>rw[LN he]at hn;exact hr n hn
    | false=>
      rw[LM he]at hn
      rcases ez.1 hn with rfl|hn
      · rw [hc x n (n-1) (fun z hz=>by
          rcases ez.1 hz with k|k
          · omega
          · rcases ez.1 k with k|k
            · omega
            · have:=p3 z k;omega) (hm n (eW ..)) (wY _) (by omega) (by omega)]
        exact he
      · exact hr n hn
/-- The first behind a day. -/
def Nk(d:Int):List Int→Int×Bool
  |[]=>(0,false)
  |z::r=>match ao d z with|true=>(z,true)|false=>Nk d r
theorem Vl{d z:Int}{r:List Int}(h:ao d z=true):Nk d (z::r)=(z,true):=by simp only[Nk,h]
theorem Vm{d z:Int}{r:List Int}(h:ao d z=false):Nk d (z::r)=Nk d r:=by simp only[Nk,h]
theorem IM(d:Int):∀(l:List Int),l.Pairwise (fun a b=>a<b)→(Nk d l=(0,false)∧∀z,z∈l→z≤d)∨∃v,Nk d l=(v,true)∧v∈l∧d<v∧∀z,z∈l→z≤d∨v≤z
  |[],_=>.inl ⟨rfl,fun z hz=>by cases hz⟩
  | z::r,hp=>by
    obtain⟨p1,p2⟩:=gT.1 hp
    cases h:ao d z with
    | true=>
      refine .inr ⟨z,Vl h,eW ..,am h,fun y hy=>?_⟩
      rcases ez.1 hy with rfl|hy
      · exact .inr (wY _)
      · exact .inr (Int.le_of_lt (p1 y hy))
    | false=>
      have hz:=aB h
      rw[Vm h]
      rcases IM d r p2 with⟨q1,q2⟩|⟨v,q1,q2,q3,q4⟩
      · refine .inl ⟨q1,fun y hy=>?_⟩
        rcases ez.1 hy with rfl|hy
        · exact hz
        · exact q2 y hy
      · refine .inr ⟨v,q1,eJ _ q2,q3,fun y hy=>?_⟩
        rcases ez.1 hy with rfl|hy
        · exact .inl hz
        · exact q4 y hy
theorem Lx{d e:Int}:∀{l:List Int}{x:Int},(∀z,z∈l→(z≤d↔z≤e))→gm d l x=gm e l x
  |[],_,_=>rfl
  | z::r,x,h=>by
    have hz:=h z (eW ..)
    have ih:=fun x=>Lx (x:=x) fun y hy=>h y (eJ _ hy)
    cases q:ao d z with
    | true=>
      have:=am q
      rw[pQ q,pQ (jy (by omega))];exact ih x
    | false=>
      have:=aB q
      rw[qg q,qg (iQ (by omega))];exact ih z
section
variable(p:aI)(gs:List PGaz)
theorem R3:(-1::kc gs).Pairwise (fun a b=>a<b):=gT.2 ⟨fun z hz=>by have:=py gs z hz;omega,Ib _⟩
theorem DJ(u v d:Int)(hz:∀z,z∈ -1::kc gs→z≤u∨v≤z)(hv:v≤1048577)(h1:u≤d)(h2:d<v):aH d p gs=aH u p gs:=s9 gs p (fun z h=>hz z (eJ _ h)) hv h1 h2
theorem AN{d:Int}(h1: -1≤d)(h2:d≤1048576):aH d p gs=aH (gm d (iP p gs) (-1)) p gs:=
  Vr (b:=fun d=>aH d p gs) (kc gs) (-1) (R3 gs) (fun u v d hz hv _ h3 h4=>DJ p gs u v d hz hv h3 h4) d h1 h2
theorem Er{n:Int}(h:n∈iP p gs):lP (aH n p gs) (aH (n-1) p gs)=false:=
  RR (b:=fun d=>aH d p gs) (kc gs) (-1) (R3 gs) (fun c hc=>Int.le_of_lt (py gs c hc).2) (fun u v d hz hv _ h3 h4=>DJ p gs u v d hz hv h3 h4) n h
theorem T0{d:Int}(h:ao (gm d (iP p gs) (-1)) 0=true):gm d (iP p gs) (-1)= -1:=by
  rcases rk d (iP p gs) (-1)with⟨q,_⟩|⟨_,q,_⟩
  · exact q
  · have:=(py gs _ (uI q)).1
    have:=am h;omega
theorem yJ{d:Int}(h:ao (gm d (iP p gs) (-1)) 0=false):gm d (iP p gs) (-1)∈iP p gs∧gm d (iP p gs) (-1)≤d:=by
  rcases rk d (iP p gs) (-1)with⟨q,_⟩|⟨_,q1,q2⟩
  · rw[q]at h;cases h
  · exact⟨q1,q2⟩
theorem OY{d v:Int}(h1:0≤d)(hv:v∈iP p gs)(h2:d<v)(hz:∀z,z∈iP p gs→z≤d∨v≤z):aH (v-1) p gs=aH d p gs:=by
  have hb:=(py gs v (uI hv)).2
  rw[AN p gs (d:=v-1) (by omega) (by omega),AN p gs (d:=d) (by omega) (by omega),Lx (d:=v-1) (e:=d) fun z h=>by have:=hz z h;omega]
end
theorem Yu{a b:TUnit}(h:a≠b):lP a b=false:=by
  cases q:lP a b with
  |false=>rfl
  |true=>exact absurd ((uc a b).1 q) h
theorem Yt{a b:TUnit}(h:lP a b=false):a≠b:=fun e=>by rw[(uc a b).2 e]at h;cases h
/-- The law of the constant book, its facts. -/
structure CstF(b:Int→TUnit)(d n:Int)(x:Int×Bool):Prop where
  zero:ao n 0=true→(b d).kids.length=0
  le:ao n 0=false→ao d n=false
  s1:ao n 0=false→lP (b d) (b n)=true
  s2:ao n 0=false→lP (b d) (b (n-1))=false
  s3:ao n 0=false→lP (b n) (b (n-1))=false
  s4:x.2=true→ao d x.1=true∧lP (b d) (b (x.1-1))=true∧lP (b d) (b x.1)=false
theorem Xx(p:aI)(gs:List PGaz){d:Int}(h1:0≤d)(h2:d≤1048576):CstF (fun d=>aH d p gs) d (gm d (iP p gs) (-1)) (Nk d (iP p gs)):=by
  have hl:=AN p gs (d:=d) (by omega) h2
  refine⟨fun h=>?_,fun h=>iQ (yJ p gs h).2,fun h=>(uc _ _).2 hl,fun h=>?_,fun h=>Er p gs (yJ p gs h).1,fun h=>?_⟩
  · show(aH d p gs).kids.length=0
    rw[hl,T0 p gs h,AM gs p (.inl (by omega))];rfl
  · show lP (aH d p gs) _=false
    rw[hl]
    exact Er p gs (yJ p gs h).1
  · rcases IM d (iP p gs) (LL p gs)with⟨q1,_⟩|⟨v,q1,q2,q3,q4⟩
    · rw[q1]at h;cases h
    · rw[q1]
      have k:=OY p gs h1 q2 q3 q4
      refine⟨jy q3,(uc _ _).2 k.symm,Yu fun e=>Yt (Er p gs q2) ?_⟩
      rw[k];exact e.symm
/-- What the law's rounds know: what is left lies behind the day, and nothing else does. -/
structure AscI(c r:List Int)(at_:Int):Prop where
  out:∀z,z∈c→at_<z→z∈r
  in_:∀z,z∈r→at_<z∧z∈c
  up:r.Pairwise (fun a b=>a<b)
theorem GG{V:Type}(k j:Int)(v:V):∀(m:List (Int×V)),eX j (di k v m)=match al j k with|true=>some v|false=>eX j m
  |[]=>by simp only[di,eX];cases al j k<;>rfl
  | (i,u)::r=>by
    rw[di]
    cases h:al k i with
    | true=>
      have e:=iX h
      subst e
      simp only[eX];cases al j k<;>rfl
    | false=>
      simp only[eX]
      cases h2:al j i with
      | true=>
        have e:=iX h2
        subst e
        have h3:al j k=false:=by
          cases q:al j k with
          |false=>rfl
          |true=>rw[iX q,bY]at h;cases h
        rw[h3]
      |false=>exact GG k j v r
def WB(day:Int)(B:List Int)(x0:Nat×List Int×Int):Prop:=(B).drop x0.1=x0.2.1∧(-1:Int)≤x0.2.2∧x0.2.2+Int.ofNat x0.2.1.length≤Int.ofNat B.length∧zH day B=zH day x0.2.1+(x0.2.2+(1:Int))
noncomputable def WA(day:Int)(B:List Int)(x0:Nat×List Int×Int):List AV×List AObj:=([iV day,iV x0.2.2,AV.ls (B.map aw),nV B.length,nV x0.1],[])
theorem qi(gs:List PGaz)(day:Int)(B:List Int)(hB:B.length<2^30)(hb:kP 31 [.ls (gs.map af)] (.ls (B.map aw))):kP 56 [iV day,.ls (gs.map af)] (iV (Gy day B)):=by
  have rr0 b' (h:(Gy day B)=b':=by first|exact(zS (BM.2 ⟨by assumption,by assumption⟩)).trans (by rw[hj0.2.2];simp only[zH];omega)|exact yK (Bool.or_eq_true_iff.2 (.inl ‹_›))|exact yK (Bool.or_eq_true_iff.2 (.inr ‹_›))):=h;exact bD Tryz.func56<|Ka 3 day 0 (fun a _=>Mt a<|MV a<|Kf 1<|li<|rr0 (-1)) fun a _=>Kh 0 a<|Kw 0 a<|Mb (ao 1048576 day) (fun a=>have:=am a;Kf 0<|li<|rr0 (-1)) fun a=>have:=aB a;Kp 1 hb<|Kl 0 16 (ln aw B)<|Mg 0<|JI aw B ((-1):Int) [0,5,15,16,17] (fun a _ b=>([iV day,iV b,aW<|B.map aw,nV B.length,nV a],[])) (fun a b=>((-1):Int)≤b∧b+Int.ofNat a.length≤Int.ofNat B.length∧zH day B=zH day a+(b+(1:Int))) (by(exact⟨by omega,by simp only[oN];omega,by omega⟩)) (fun _ _ a _ _ _ b hj0=>Kh 0 b<|Kf 1<|li<|rr0 a) fun a _ b _ _ c d e _ f _ g hj0=>Kt 0 f<|Mx g<|Kd 4 day c (fun _ _=>Kl 1 25 (Le.wr (x:=b+1) e9)<|Kl 1 26 (dK a)<|Kf 0<|e (b+1)<|by exact⟨by omega,by(have z:=hj0.2.1;simp only[lC,oN]at *;omega),by rw[hj0.2.2,sZ (by assumption)];omega⟩) fun _ _=>Kl 0 26 (dK a)<|Kf 0<|e b<|by exact⟨by omega,by(have z:=hj0.2.1;simp only[lC,oN]at *;omega),by rw[hj0.2.2,wN (by assumption)]⟩
noncomputable abbrev DN(gs:List PGaz):AObj:=.row 1 false 0 [.ls (gs.map af)]
noncomputable abbrev DT:AObj:=.row 1 false 0 [.map 2]
noncomputable abbrev gC(m:List (Int×TUnit)):AObj:=.map (aT eU m 0) m.length
noncomputable abbrev Ol(u:TUnit):AObj:=.row 8 false 0 [eU u]
noncomputable abbrev bkF:AV:=.func (.func 55) [] [.ptr 1 0 0 0,.ptr 3 0 0 0,.ptr 0 0 0 0]
theorem HG(gs:List PGaz)(p:aI):kD 32 [.str p,.ls (gs.map af)] (av []) bkF (av [eQ p,DN gs,gC [],DT]):=by
  exact ej Tryz.func32 fun a=>Kf 7 a
theorem Xu(gs:List PGaz)(p:aI)(day c:Int)(m:List (Int×TUnit))(u:TUnit)(hi:kP 56 [iV day,.ls (gs.map af)] (iV c))(hm:eX c m=some u):
    kD 55 [iV day,.ptr 1 0 0 0,.ptr 3 0 0 0,.ptr 0 0 0 0] (av [eQ p,DN gs,gC m,DT]) (eU u) (av [eQ p,DN gs,gC m,DT]):=by
  have hlk:dV (some zU) true (bX false 1 [(0,1)] (iV c) (aT eU m 0) 0)=some (.tuple [eU u,.bool true]):=by rw[iN,hm]
  exact ej Tryz.func55 fun a=>Kp 2 hi<|K1 2 (.look<|bO [ab [iV u.act,iV u.item,iV u.n,iV u.kind,ax u.label,aW<|u.head.map aQ,aW<|u.words.map aQ,aW<|u.kids.map aK],dD true]) hlk<|K1 10 (.frz 4 [5]) (xV rt (tM m.length 4<|aa (f:=eU) (fun _=>rfl) m 0) rt rt ti)<|Mf a
theorem U2(gs:List PGaz)(p:aI)(day c:Int)(m:List (Int×TUnit))(u:TUnit)(hi:kP 56 [iV day,.ls (gs.map af)] (iV c))(hm:eX c m=none)(hb:kP 14 [iV day,.str p,.ls (gs.map af)] (eU u)):
    kD 55 [iV day,.ptr 1 0 0 0,.ptr 3 0 0 0,.ptr 0 0 0 0] (av [eQ p,DN gs,gC m,DT]) (eU u) (av [eQ p,DN gs,gC (di c u m),DT]):=by
  have hlk:dV (some zU) true (bX false 1 [(0,1)] (iV c) (aT eU m 0) 0)=some (.tuple [zU,.bool false]):=by rw[iN,hm];rfl
  have hup:oB (aT eU m 0) m.length (iV c) (eU u) (bX false 1 [(0,1)] (iV c) (aT eU m 0) 0)=some (aT eU (di c u m) 0,(di c u m).length):=n4 c u m
  exact ej Tryz.func55 fun a=>Kp 2 hi<|K1 2 (.look<|bO [ab [iV 0,iV 0,iV 0,iV 0,ax [],ah,ah,ah],dD false]) hlk<|Kp 11 hb<|K1 3 (.upd (aT eU (di c u m) 0) (di c u m).length) hup<|K1 1 (.frz 4 [5]) (xV rt (tM (di c u m).length 4<|aa (f:=eU) (fun _=>rfl) (di c u m) 0) rt rt ti)<|Mf a
/-- What is known of the books: each is its interval's. -/
def je(gs:List PGaz)(p:aI)(m:List (Int×TUnit)):Prop:=∀c u,eX c m=some u→∀d,Gy d (kc gs)=c→aH d p gs=u
theorem vE(gs:List PGaz)(p:aI):je gs p []:=fun c u h=>by cases h
theorem je.put{gs:List PGaz}{p:aI}{m:List (Int×TUnit)}(h:je gs p m)(d:Int):je gs p (di (Gy d (kc gs)) (aH d p gs) m):=fun c u hu e he=>by
  rw[GG]at hu
  cases q:al c (Gy d (kc gs))with
  |true=>rw[q]at hu;rw[←E7 hu];exact T2 gs p (he.trans (iX q))
  |false=>rw[q]at hu;exact h c u hu e he
/-- The books after a day was asked for. -/
noncomputable def lK(gs:List PGaz)(p:aI)(d:Int)(m:List (Int×TUnit)):List (Int×TUnit):=match eX (Gy d (kc gs)) m with|some _=>m|none=>di (Gy d (kc gs)) (aH d p gs) m
theorem je.go{gs:List PGaz}{p:aI}{m:List (Int×TUnit)}(h:je gs p m)(d:Int):je gs p (lK gs p d m):=by
  unfold lK
  cases eX (Gy d (kc gs)) m with
  |some _=>exact h
  |none=>exact h.put d
theorem Y9(gs:List PGaz)(ok:OkG gs)(p:aI)(day:Int)(m:List (Int×TUnit))(hm:je gs p m):
    kD 55 [iV day,.ptr 1 0 0 0,.ptr 3 0 0 0,.ptr 0 0 0 0] (av [eQ p,DN gs,gC m,DT]) (eU (aH day p gs)) (av [eQ p,DN gs,gC (lK gs p day m),DT]):=by
  have hi:=qi gs day (kc gs) (by have:=qH gs;omega) ok.brk
  unfold lK
  cases q:eX (Gy day (kc gs)) m with
  |some u=>rw[hm _ _ q day rfl];exact Xu gs p day _ m u hi q
  |none=>exact U2 gs p day _ m _ hi q (ok.book day p)
theorem U4(gs:List PGaz)(p:aI)(day c:Int)(m:List (Int×TUnit))(u a:TUnit)(hi:kP 56 [iV day,.ls (gs.map af)] (iV c))(hm:eX c m=some u):
    kD 55 [iV day,.ptr 1 0 0 0,.ptr 3 0 0 0,.ptr 0 0 0 0] (av [eQ p,DN gs,gC m,DT,Ol a]) (eU u) (av [eQ p,DN gs,gC m,DT,Ol a]):=by
  have hlk:dV (some zU) true (bX false 1 [(0,1)] (iV c) (aT eU m 0) 0)=some (.tuple [eU u,.bool true]):=by rw[iN,hm]
  exact ej Tryz.func55 fun b=>Kp 2 hi<|K1 2 (.look<|bO [ab [iV u.act,iV u.item,iV u.n,iV u.kind,ax u.label,aW<|u.head.map aQ,aW<|u.words.map aQ,aW<|u.kids.map aK],dD true]) hlk<|K1 10 (.frz 5 [5]) (vP rt rt (tM m.length 5<|aa (f:=eU) (fun _=>rfl) m 0) rt rt ti)<|Mf b
theorem SZ(gs:List PGaz)(p:aI)(day c:Int)(m:List (Int×TUnit))(u a:TUnit)(hi:kP 56 [iV day,.ls (gs.map af)] (iV c))(hm:eX c m=none)(hb:kP 14 [iV day,.str p,.ls (gs.map af)] (eU u)):
    kD 55 [iV day,.ptr 1 0 0 0,.ptr 3 0 0 0,.ptr 0 0 0 0] (av [eQ p,DN gs,gC m,DT,Ol a]) (eU u) (av [eQ p,DN gs,gC (di c u m),DT,Ol a]):=by
  have hlk:dV (some zU) true (bX false 1 [(0,1)] (iV c) (aT eU m 0) 0)=some (.tuple [zU,.bool false]):=by rw[iN,hm];rfl
  have hup:oB (aT eU m 0) m.length (iV c) (eU u) (bX false 1 [(0,1)] (iV c) (aT eU m 0) 0)=some (aT eU (di c u m) 0,(di c u m).length):=n4 c u m
  exact ej Tryz.func55 fun b=>Kp 2 hi<|K1 2 (.look<|bO [ab [iV 0,iV 0,iV 0,iV 0,ax [],ah,ah,ah],dD false]) hlk<|Kp 11 hb<|K1 3 (.upd (aT eU (di c u m) 0) (di c u m).length) hup<|K1 1 (.frz 5 [5]) (vP rt rt (tM (di c u m).length 5<|aa (f:=eU) (fun _=>rfl) (di c u m) 0) rt rt ti)<|Mf b
theorem U3(gs:List PGaz)(p:aI)(day c:Int)(m:List (Int×TUnit))(u a:TUnit)(ep:Nat)(out:List Int)(hi:kP 56 [iV day,.ls (gs.map af)] (iV c))(hm:eX c m=some u):
    kD 55 [iV day,.ptr 1 0 0 0,.ptr 3 0 0 0,.ptr 0 0 0 0] (av [eQ p,DN gs,gC m,DT,Ol a,lL ep out]) (eU u) (av [eQ p,DN gs,gC m,DT,Ol a,lL ep out]):=by
  have hlk:dV (some zU) true (bX false 1 [(0,1)] (iV c) (aT eU m 0) 0)=some (.tuple [eU u,.bool true]):=by rw[iN,hm]
  exact ej Tryz.func55 fun b=>Kp 2 hi<|K1 2 (.look<|bO [ab [iV u.act,iV u.item,iV u.n,iV u.kind,ax u.label,aW<|u.head.map aQ,aW<|u.words.map aQ,aW<|u.kids.map aK],dD true]) hlk<|K1 10 (.frz 6 [5]) (E1 (tR 1 true ep 6<|aX Ji out) rt rt (tM m.length 6<|aa (f:=eU) (fun _=>rfl) m 0) rt rt ti)<|Mf b
theorem SQ(gs:List PGaz)(p:aI)(day c:Int)(m:List (Int×TUnit))(u a:TUnit)(ep:Nat)(out:List Int)(hi:kP 56 [iV day,.ls (gs.map af)] (iV c))(hm:eX c m=none)(hb:kP 14 [iV day,.str p,.ls (gs.map af)] (eU u)):
    kD 55 [iV day,.ptr 1 0 0 0,.ptr 3 0 0 0,.ptr 0 0 0 0] (av [eQ p,DN gs,gC m,DT,Ol a,lL ep out]) (eU u) (av [eQ p,DN gs,gC (di c u m),DT,Ol a,lL ep out]):=by
  have hlk:dV (some zU) true (bX false 1 [(0,1)] (iV c) (aT eU m 0) 0)=some (.tuple [zU,.bool false]):=by rw[iN,hm];rfl
  have hup:oB (aT eU m 0) m.length (iV c) (eU u) (bX false 1 [(0,1)] (iV c) (aT eU m 0) 0)=some (aT eU (di c u m) 0,(di c u m).length):=n4 c u m
  exact ej Tryz.func55 fun b=>Kp 2 hi<|K1 2 (.look<|bO [ab [iV 0,iV 0,iV 0,iV 0,ax [],ah,ah,ah],dD false]) hlk<|Kp 11 hb<|K1 3 (.upd (aT eU (di c u m) 0) (di c u m).length) hup<|K1 1 (.frz 6 [5]) (E1 (tR 1 true ep 6<|aX Ji out) rt rt (tM (di c u m).length 6<|aa (f:=eU) (fun _=>rfl) (di c u m) 0) rt rt ti)<|Mf b
theorem Z8(gs:List PGaz)(ok:OkG gs)(p:aI)(a:TUnit)(day:Int)(m:List (Int×TUnit))(hm:je gs p m):
    kD 55 [iV day,.ptr 1 0 0 0,.ptr 3 0 0 0,.ptr 0 0 0 0] (av [eQ p,DN gs,gC m,DT,Ol a]) (eU (aH day p gs)) (av [eQ p,DN gs,gC (lK gs p day m),DT,Ol a]):=by
  have hi:=qi gs day (kc gs) (by have:=qH gs;omega) ok.brk
  unfold lK
  cases q:eX (Gy day (kc gs)) m with
  |some u=>rw[hm _ _ q day rfl];exact U4 gs p day _ m u a hi q
  |none=>exact SZ gs p day _ m _ a hi q (ok.book day p)
theorem Z7(gs:List PGaz)(ok:OkG gs)(p:aI)(a:TUnit)(ep:Nat)(out:List Int)(day:Int)(m:List (Int×TUnit))(hm:je gs p m):
    kD 55 [iV day,.ptr 1 0 0 0,.ptr 3 0 0 0,.ptr 0 0 0 0] (av [eQ p,DN gs,gC m,DT,Ol a,lL ep out]) (eU (aH day p gs)) (av [eQ p,DN gs,gC (lK gs p day m),DT,Ol a,lL ep out]):=by
  have hi:=qi gs day (kc gs) (by have:=qH gs;omega) ok.brk
  unfold lK
  cases q:eX (Gy day (kc gs)) m with
  |some u=>rw[hm _ _ q day rfl];exact U3 gs p day _ m u a ep out hi q
  |none=>exact SQ gs p day _ m _ a ep out hi q (ok.book day p)
theorem Xb(gs:List PGaz)(B:List Int)(hb:kP 31 [.ls (gs.map af)] (.ls (B.map aw))):kP 10 [.ls (gs.map af)] (.ls (B.map aw)):=by
  exact bD Tryz.func10<|Kp 1 hb<|Kf 0<|bc<|aW<|B.map aw
theorem VN{b:Int→TUnit}{a u:TUnit}{d:Int}{r:List Int}(hu:u=b d)(h:lP u a=false):nN b a (d::r)=d::nN b u r:=by subst hu;exact LM h
theorem VM{b:Int→TUnit}{a u:TUnit}{d:Int}{r:List Int}(hu:u=b d)(h:lP u a=true):nN b a (d::r)=nN b u r:=by subst hu;exact LN h
def En(gs:List PGaz)(p:aI)(B:List Int)(x0:Nat×List Int×List (Int×TUnit)×TUnit):Prop:=(B).drop x0.1=x0.2.1∧je gs p x0.2.2.1∧jq x0.2.2.2∧nN (fun d=>aH d p gs) (aH (-1:Int) p gs) B=nN (fun d=>aH d p gs) x0.2.2.2 x0.2.1
noncomputable def uL(gs:List PGaz)(p:aI)(B:List Int)(x0:Nat×List Int×List (Int×TUnit)×TUnit):List AV×List AObj:=([AV.func (Fn.func 55) [] [AV.ptr 1 0 0 0,AV.ptr 3 0 0 0,AV.ptr 0 0 0 0],AV.ptr 4 0 0 0,AV.nils,AV.ls (B.map aw),nV B.length,nV x0.1],[AObj.row 1 false 0 [AV.str p],AObj.row 1 false 0 [AV.ls (gs.map af)],AObj.map (aT eU x0.2.2.1 0) x0.2.2.1.length,AObj.row 1 false 0 [AV.map 2],AObj.row 8 false 0 [AV.agg [iV x0.2.2.2.act,iV x0.2.2.2.item,iV x0.2.2.2.n,iV x0.2.2.2.kind,AV.str x0.2.2.2.label,AV.ls (x0.2.2.2.head.map aQ),AV.ls (x0.2.2.2.words.map aQ),AV.ls (x0.2.2.2.kids.map aK)]]])
def Em(gs:List PGaz)(p:aI)(B:List Int)(x0:Nat×List Int×List (Int×TUnit)×TUnit×Nat×Nat×List Int):Prop:=(B).drop x0.1=x0.2.1∧je gs p x0.2.2.1∧jq x0.2.2.2.1∧x0.2.2.2.2.2.1=x0.2.2.2.2.2.2.length∧x0.2.2.2.2.2.1+x0.2.1.length≤B.length∧nN (fun d=>aH d p gs) (aH (-1:Int) p gs) B=x0.2.2.2.2.2.2++nN (fun d=>aH d p gs) x0.2.2.2.1 x0.2.1
noncomputable def El(gs:List PGaz)(p:aI)(B:List Int)(x0:Nat×List Int×List (Int×TUnit)×TUnit×Nat×Nat×List Int):List AV×List AObj:=([AV.func (Fn.func 55) [] [AV.ptr 1 0 0 0,AV.ptr 3 0 0 0,AV.ptr 0 0 0 0],AV.ptr 4 0 0 0,AV.slice 5 x0.2.2.2.2.1 0 x0.2.2.2.2.2.1 none,AV.ls (B.map aw),nV B.length,nV x0.1],[AObj.row 1 false 0 [AV.str p],AObj.row 1 false 0 [AV.ls (gs.map af)],AObj.map (aT eU x0.2.2.1 0) x0.2.2.1.length,AObj.row 1 false 0 [AV.map 2],AObj.row 8 false 0 [AV.agg [iV x0.2.2.2.1.act,iV x0.2.2.2.1.item,iV x0.2.2.2.1.n,iV x0.2.2.2.1.kind,AV.str x0.2.2.2.1.label,AV.ls (x0.2.2.2.1.head.map aQ),AV.ls (x0.2.2.2.1.words.map aQ),AV.ls (x0.2.2.2.1.kids.map aK)]],AObj.row 1 true x0.2.2.2.2.1 (x0.2.2.2.2.2.2.map aw)])
theorem RP(gs:List PGaz)(ok:OkG gs)(p:aI):kP 11 [.str p,.ls (gs.map af)] (.ls ((iP p gs).map aw)):=by
  have hB:=Xb gs _ ok.brk
  have hl:=qH gs
  have h0:=ok.book (-1) p
  have hb:=HG gs p
  have k1:=Z8 gs ok p
  have k2:=Z7 gs ok p
  have f0:jq (aH (-1) p gs):=oZ (ok.okB (-1) p)
  have fb:∀d,jq (aH d p gs):=fun d=>oZ (ok.okB d p)
  have he:∀d a,jq a→kP 33 [eU (aH d p gs),eU a] (.bool (lP (aH d p gs) a)):=fun d a ha=>Ik _ (fb d) a ha
  show bW _ _ _ _ (.ls ((nN (fun d=>aH d p gs) (aH (-1) p gs) (kc gs)).map aw))
  generalize kc gs=B at *
  have rr0 b' (h:((nN (fun d=>aH d p gs) (aH (-1) p gs) B).map aw)=b':=by first|rfl|(rw[hj0.2.2];rfl)|(rw[hj0.2.2.2.2];exact congrArg (List.map aw) (ef _))):=h;exact bD Tryz.func11<|Ke 2 hb<|Kp 2 h0<|Kp 3 hB<|Kl 0 19 (ln aw B)<|Mg 0<|MM (Nat×List Int×List (Int×TUnit)×TUnit) (Nat×List Int×List (Int×TUnit)×TUnit×Nat×Nat×List Int) [5,6,7,18,19,20] (uL gs p B) (El gs p B) (En gs p B) (Em gs p B) (fun b=>b.2.1.length) (fun b=>b.2.1.length) (.inl (0,B,([],aH (-1) p gs))) (aU<|uL gs p B (0,B,([],aH (-1) p gs))) (et (rfl:List.drop 0 (B)=B) (by(exact⟨vE gs p,f0,rfl⟩):(je gs p []∧jq (aH (-1:Int) p gs)∧nN (fun d=>aH d p gs) (aH (-1:Int) p gs) B=nN (fun d=>aH d p gs) (aH (-1:Int) p gs) B))) (fun b c e=>Mc b.2.1 (fun e=>have f:=eP c.1 e;have hj0:=gv (J:=fun b c=>je gs p c.1∧jq c.2∧nN (fun d=>aH d p gs) (aH ((-1):Int) p gs) B=nN (fun d=>aH d p gs) c.2 b) (a:=b.2.2) e c.2;Kh 0 f<|Kf 1 (Le.lsn<|rr0 []:Le _ (ah))) fun f g i=>have j:=fY c.1 i;have:=am j;have k:=eO (enc:=aw) c.1 i;have hj0:=cw (J:=fun b c=>je gs p c.1∧jq c.2∧nN (fun d=>aH d p gs) (aH ((-1):Int) p gs) B=nN (fun d=>aH d p gs) c.2 b) (a:=b.2.2) i c.2;Kt 0 j<|Mx k<|Ke 3 (k1 b.2.2.2 f b.2.2.1<|by exact hj0.1)<|Kp 3 (he f b.2.2.2<|by exact hj0.2.1)<|Kn 0 (lP (aH f p gs) b.2.2.2) (fun _=>Kl 7 36 (dK b.1)<|K1 0 (.ren [0,1,2,3,4,6,5] [2] [5,6,7,18,19,20]) (tN (lK gs p f b.2.2.1).length<|aa (f:=eU) (fun _=>rfl) (lK gs p f b.2.2.1) 0)<|M1 (.frz 6 [5,6,7,18,19,20]) (E1 rt rt rt (tM (lK gs p f b.2.2.1).length 6<|aa (f:=eU) (fun _=>rfl) (lK gs p f b.2.2.1) 0) rt rt ti)<|Mf<|e (.inr (b.1+1,g,(lK gs p f b.2.2.1,aH f p gs,0,1,[f]))) (et (bV c.1 i) (by exact⟨hj0.1.go f,fb f,rfl,(by have z:=fS c.1 i;show 1+g.length≤B.length;omega),by rw[hj0.2.2,VN rfl (by assumption)];rfl⟩:(je gs p (lK gs p f b.2.2.1)∧jq (aH f p gs)∧(1:Nat)=[f].length∧(1:Nat)+g.length≤B.length∧nN (fun d=>aH d p gs) (aH (-1:Int) p gs) B=[f]++nN (fun d=>aH d p gs) (aH f p gs) g)))<|dn i) fun _=>Kl 2 36 (dK b.1)<|K1 0 (.frz 5 [5,6,7,18,19,20]) (vP rt rt (tM (lK gs p f b.2.2.1).length 5<|aa (f:=eU) (fun _=>rfl) (lK gs p f b.2.2.1) 0) rt rt ti)<|Mf<|e (.inl (b.1+1,g,(lK gs p f b.2.2.1,aH f p gs))) (et (bV c.1 i) (by exact⟨hj0.1.go f,fb f,by rw[hj0.2.2,VM rfl (by assumption)]⟩:(je gs p (lK gs p f b.2.2.1)∧jq (aH f p gs)∧nN (fun d=>aH d p gs) (aH (-1:Int) p gs) B=nN (fun d=>aH d p gs) (aH f p gs) g)))<|dn i) fun b c e=>let f:=List.map aw b.2.2.2.2.2.2;Mc b.2.1 (fun e=>have g:=eP c.1 e;have hj0:=gv (J:=fun b c=>je gs p c.1∧jq c.2.1∧c.2.2.2.1=c.2.2.2.2.length∧c.2.2.2.1+b.length≤B.length∧nN (fun d=>aH d p gs) (aH ((-1):Int) p gs) B=c.2.2.2.2++nN (fun d=>aH d p gs) c.2.1 b) (a:=b.2.2) e c.2;Kh 0 g<|Mg 1<|M2 (.fsl 0 [] 4 f) ti (cn (aU b.2.2.2.2.1) (tA aw b.2.2.2.2.2.2 b.2.2.2.2.2.1 (by(omega):(b.2.2.2.2.2.2).length=b.2.2.2.2.2.1))<|aX Ji b.2.2.2.2.2.2)<|Ml 4 (fg f false<|aX Ji b.2.2.2.2.2.2)<|Mf<|cK<|rr0 f) fun f g i=>have j:=fY c.1 i;have:=am j;have k:=eO (enc:=aw) c.1 i;have hj0:=cw (J:=fun b c=>je gs p c.1∧jq c.2.1∧c.2.2.2.1=c.2.2.2.2.length∧c.2.2.2.1+b.length≤B.length∧nN (fun d=>aH d p gs) (aH ((-1):Int) p gs) B=c.2.2.2.2++nN (fun d=>aH d p gs) c.2.1 b) (a:=b.2.2) i c.2;Kt 0 j<|Mx k<|Ke 3 (k2 b.2.2.2.1 b.2.2.2.2.1 b.2.2.2.2.2.2 f b.2.2.1<|by exact hj0.1)<|Kp 3 (he f b.2.2.2.1<|by exact hj0.2.1)<|Kn 0 (lP (aH f p gs) b.2.2.2.1) (fun _=>K1 2 .app (cn (aU b.2.2.2.2.1) (by(rw[lM];exact hj0.2.2.1):b.2.2.2.2.2.1=(b.2.2.2.2.2.2.map aw).length) (by(have z:=hj0.2.2.2.1;simp only[lC]at z;refine dY (m:=2^23) ?_ ?_ ?_<;>first|omega|decide):small (b.2.2.2.2.2.1+1) 8=true))<|M1 (.obj 5<|aZ 1 true (b.2.2.2.2.1+1)<|(b.2.2.2.2.2.2++[f]).map aw) (congrArg (aZ 1 true<|b.2.2.2.2.1+1)<|dQ (f:=aw) (l:=b.2.2.2.2.2.2) (ws:=[f]))<|Kl 3 36 (dK b.1)<|K1 0 (.frz 6 [5,6,7,18,19,20]) (E1 (tR 1 true (b.2.2.2.2.1+1) 6<|aX Ji<|b.2.2.2.2.2.2++[f]) rt rt (tM (lK gs p f b.2.2.1).length 6<|aa (f:=eU) (fun _=>rfl) (lK gs p f b.2.2.1) 0) rt rt ti)<|Mf<|e (.inr (b.1+1,g,(lK gs p f b.2.2.1,aH f p gs,b.2.2.2.2.1+1,b.2.2.2.2.2.1+1,b.2.2.2.2.2.2++[f]))) (et (bV c.1 i) (by exact⟨hj0.1.go f,fb f,by rw[lA,←hj0.2.2.1];rfl,by(have z:=hj0.2.2.2.1;simp only[lC]at z;omega),by rw[hj0.2.2.2.2,VN rfl (by assumption)];simp⟩:(je gs p (lK gs p f b.2.2.1)∧jq (aH f p gs)∧b.2.2.2.2.2.1+1=(b.2.2.2.2.2.2++[f]).length∧b.2.2.2.2.2.1+1+g.length≤B.length∧nN (fun d=>aH d p gs) (aH (-1:Int) p gs) B=b.2.2.2.2.2.2++[f]++nN (fun d=>aH d p gs) (aH f p gs) g)))<|dn i) fun _=>Kl 2 36 (dK b.1)<|K1 0 (.frz 6 [5,6,7,18,19,20]) (E1 (tR 1 true b.2.2.2.2.1 6<|aX Ji b.2.2.2.2.2.2) rt rt (tM (lK gs p f b.2.2.1).length 6<|aa (f:=eU) (fun _=>rfl) (lK gs p f b.2.2.1) 0) rt rt ti)<|Mf<|e (.inr (b.1+1,g,(lK gs p f b.2.2.1,aH f p gs,b.2.2.2.2.1,b.2.2.2.2.2.1,b.2.2.2.2.2.2))) (et (bV c.1 i) (by exact⟨hj0.1.go f,fb f,hj0.2.2.1,by(have z:=hj0.2.2.2.1;simp only[lC]at z;omega),by rw[hj0.2.2.2.2,VM rfl (by assumption)]⟩:(je gs p (lK gs p f b.2.2.1)∧jq (aH f p gs)∧b.2.2.2.2.2.1=b.2.2.2.2.2.2.length∧b.2.2.2.2.2.1+g.length≤B.length∧nN (fun d=>aH d p gs) (aH (-1:Int) p gs) B=b.2.2.2.2.2.2++nN (fun d=>aH d p gs) (aH f p gs) g)))<|dn i
/-- Where the first behind a day stands. -/
theorem P4(d:Int):∀(l:List Int),(Nk d l=(0,false)∧∀k,k<l.length→ao d (gD l k)=false)∨∃m,m<l.length∧Nk d l=(gD l m,true)∧ao d (gD l m)=true∧∀k,k<m→ao d (gD l k)=false
  |[]=>.inl ⟨rfl,fun k hk=>absurd hk (nO _)⟩
  | z::r=>by
    cases h:ao d z with
    |true=>exact .inr ⟨0,wK _,Vl h,h,fun k hk=>absurd hk (nO _)⟩
    | false=>
      rw[Vm h]
      rcases P4 d r with⟨q1,q2⟩|⟨m,q1,q2,q3,q4⟩
      · refine .inl ⟨q1,fun k hk=>?_⟩
        cases k with
        |zero=>exact h
        |succ k=>exact q2 k (by simp only[lC]at hk;omega)
      · refine .inr ⟨m+1,by simp only[lC];omega,q2,q3,fun k hk=>?_⟩
        cases k with
        |zero=>exact h
        |succ k=>exact q4 k (by omega)
theorem P5(day d:Int):kD 35 [iV d,.ptr 0 0 0 0] (av [fG day]) (.bool (ao day d)) (av [fG day]):=by
  exact ej Tryz.func35 fun a=>Kf 4 a
noncomputable abbrev Zd:AV:=.func (.func 35) [] [.ptr 0 0 0 0]
theorem Yz(S:List Int)(day:Int)(m:Nat)(hs:S.length<2^30)(hm:m<S.length)(hA:∀k,k<m→ao day (gD S k)=false)(hB:ao day (gD S m)=true):kD 34 [.ls (S.map aw),Zd] (av [fG day]) (nV m) (av [fG day]):=by
  have hk:∀x,x≤m→ao day (gD S x)=true→x=m:=fun x h1 h2=>by
    rcases fZ x m with h|h
    · rw[hA x h]at h2;cases h2
    · omega
  have hk2:∀x,x≤m→ao day (gD S x)=false→x+1≤m:=fun x h1 h2=>by
    rcases fZ x m with h|h
    · exact h
    · rw[show x=m by omega,hB]at h2;cases h2
  let q:=av [aZ 1 false 0 [iV day]];exact Oi Tryz.func34<|Kl 2 7 (ln aw S)<|Mg 0<|MO1 (0:Nat) [0,1,7,8] (fun a=>([aW<|S.map aw,bj (bx 35) [] [bU 0 0 0 0],nV S.length,nV a],[aZ 1 false 0 [iV day]])) (fun a=>a≤m) (fun a=>S.length-a) (by exact bH _) fun a b c=>have b:=b;Ka 0 (Int.ofNat a) (Int.ofNat S.length) (fun _ _=>Kx 4 (bJ aw (oA:a<(S).length))<|Ke 0 (P5 day<|gD S a)<|Mb (ao day<|gD S a) (fun c=>have:=am c;Kf 1<|et (by(rw[hk _ b (by assumption)]):(nV a)=(nV m))<|aU q) fun d=>have:=aB d;Kl 0 18 (jC a)<|Kf 0<|c (a+1) (by exact hk2 _ b (by assumption))<|by(omega)) fun _ _=>Kf 0<|et (by(exfalso;(simp only[oN]at *;omega)):(iV (-1))=(nV m))<|aU q
theorem Yx(S:List Int)(day:Int)(hs:S.length<2^30)(hA:∀k,k<S.length→ao day (gD S k)=false):kD 34 [.ls (S.map aw),Zd] (av [fG day]) (iV (-1)) (av [fG day]):=by
  exact ej Tryz.func34 fun a=>Kl 2 7 (ln aw S)<|Mg 0<|MO1 (0:Nat) [0,1,7,8] (fun a=>([aW<|S.map aw,bj (bx 35) [] [bU 0 0 0 0],nV S.length,nV a],[aZ 1 false 0 [iV day]])) (fun a=>a≤S.length) (fun a=>S.length-a) (by exact bH _) fun b c d=>have:=c;Ka 0 (Int.ofNat b) (Int.ofNat S.length) (fun _ _=>Kx 4 (bJ aw (by(simp only[oN,lM,lS]at *;omega):b<(S).length))<|Ke 0 (P5 day<|gD S b)<|Mb (ao day<|gD S b) (fun a=>have:=am a;Kf 1<|et (by(have z:=hA b (by(simp only[oN]at *;omega));simp_all;done):(nV b)=(iV (-1)))<|aU<|av [aZ 1 false 0 [iV day]]) fun a=>have:=aB a;Kl 0 18 (jC b)<|Kf 0<|d (b+1) (by(simp only[oN]at *;omega))<|by(simp only[oN]at *;omega)) fun _ _=>Kf 0 a
theorem ZL(gs:List PGaz)(day:Int)(p:aI)(S:List Int)(hc:kP 11 [.str p,.ls (gs.map af)] (.ls (S.map aw)))(hi:kD 34 [.ls (S.map aw),Zd] (av [fG day]) (iV (-1)) (av [fG day])):kP 12 [iV day,.str p,.ls (gs.map af)] (.tuple [iV 0,.bool false]):=by
  exact bD Tryz.func12<|Kp 4 hc<|Ke 2 hi<|Kf 5<|bc<|bO [iV 0,dD false]
theorem ZI(gs:List PGaz)(day:Int)(p:aI)(S:List Int)(m:Nat)(hm:m<S.length)(hs:S.length<2^30)(hc:kP 11 [.str p,.ls (gs.map af)] (.ls (S.map aw)))(hi:kD 34 [.ls (S.map aw),Zd] (av [fG day]) (nV m) (av [fG day])):kP 12 [iV day,.str p,.ls (gs.map af)] (.tuple [iV (gD S m),.bool true]):=by
  exact bD Tryz.func12<|Kp 4 hc<|Ke 2 hi<|Kx 5 (bJ aw (oA:m<(S).length))<|Kf 2<|bc<|bO [iV<|gD S m,dD true]
theorem Tl(gs:List PGaz)(ok:OkG gs)(day:Int)(p:aI):kP 12 [iV day,.str p,.ls (gs.map af)] (.tuple [iV (Nk day (iP p gs)).1,.bool (Nk day (iP p gs)).2]):=by
  have hl:=HA p gs
  have hc:=RP gs ok p
  rcases P4 day (iP p gs)with⟨q1,q2⟩|⟨m,q1,q2,q3,q4⟩
  · rw[q1];exact ZL gs day p _ hc (Yx _ day (by omega) q2)
  · rw[q2];exact ZI gs day p _ m q1 (by omega) hc (Yz _ day m (by omega) q1 q4 q3)
theorem Ye(gs:List PGaz)(day:Int)(p:aI)(S:List Int)(hs:S.length<2^30)(hc:kP 11 [.str p,.ls (gs.map af)] (.ls (S.map aw))):kP 13 [iV day,.str p,.ls (gs.map af)] (iV (gm day S (-1))):=by
  have rr0 b' (h:(gm day S (-1))=b':=by(rw[hj0];rfl)):=h;exact bD Tryz.func13<|Kp 3 hc<|Kl 0 13 (ln aw S)<|Mg 0<|JI aw S ((-1):Int) [0,7,12,13,14] (fun a _ b=>([iV day,iV b,aW<|S.map aw,nV S.length,nV a],[])) (fun a b=>gm day S ((-1):Int)=gm day a b) (by rfl) (fun _ _ a _ _ _ b hj0=>Kh 0 b<|Kf 1<|li<|rr0 a) fun a _ b _ _ c d e _ f _ g hj0=>Kt 0 f<|Mx g<|Kd 4 day c (fun _ _=>Kl 2 22 (dK a)<|Kf 0<|e c<|by exact hj0.trans (qg (by assumption))) fun _ _=>Kl 0 22 (dK a)<|Kf 0<|e b<|by exact hj0.trans (pQ (by assumption))
theorem Nm(gs:List PGaz)(ok:OkG gs)(day:Int)(p:aI):kP 13 [iV day,.str p,.ls (gs.map af)] (iV (gm day (iP p gs) (-1))):=Ye gs day p _ (by have:=HA p gs;omega) (RP gs ok p)
theorem OQ(gs:List PGaz)(ok:OkG gs)(a b:Int)(p:aI):kP 16 [iV a,iV b,.str p,.ls (gs.map af)] (.bool (lP (aH a p gs) (aH b p gs))):=by
  have hb:=HG gs p
  have k0:=Y9 gs ok p a [] (vE gs p)
  have k1:=Y9 gs ok p b _ ((vE gs p).go a)
  have he:kP 33 [eU (aH a p gs),eU (aH b p gs)] (.bool (lP (aH a p gs) (aH b p gs))):=Ik _ (oZ (ok.okB a p)) _ (oZ (ok.okB b p))
  exact bD Tryz.func16<|Ke 2 hb<|Ke 2 k0<|Ke 1 k1<|Mp he<|Kf 0<|bc<|dD<|lP (aH a p gs)<|aH b p gs
end Go.Proofs.YtaepacpodblomaaGreatDoor
