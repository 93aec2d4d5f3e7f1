/- Functions walked: what each of them answers, for On every day that a gazette changed, an item that the gazette contains or refers to is in force before or after it, or the gazette declares an event: part 8. Conditions: those that each theorem names. -/
import Derived.Test.YtaepacpodblomaaGreatDoorH7
namespace Go.Proofs.YtaepacpodblomaaGreatDoor
open Go Go.Ev
noncomputable def Ij(s:PSpan):List Int:=match aF s.to 1048577 with|true=>[s.from_,s.to]|false=>[s.from_]
noncomputable def cY:List PSpan→List Int
  |[]=>[]
  |s::r=>Ij s++cY r
theorem Bg{s:PSpan}(h:aF s.to 1048577=true):Ij s=[s.from_,s.to]:=by simp only[Ij,h]
theorem Bh{s:PSpan}(h:aF s.to 1048577=false):Ij s=[s.from_]:=by simp only[Ij,h]
theorem SP(s:PSpan):(Ij s).length≤2:=by unfold Ij;cases aF s.to 1048577<;>simp
theorem DA:∀(l:List PSpan),(cY l).length≤2*l.length
  |[]=>aB _
  | s::r=>by
    have:=DA r;have:=SP s
    simp only[cY,lA,lC];omega
theorem CV(l:List PSpan)(hl:l.length<2^30):kP 52 [.ls (l.map aJ)] (.ls ((cY (fg l)).map aw)):=by
  have hn:=gU l hl
  have hq:=(j6 l).len
  generalize fg l=N at *
  have rr0 b' (h:((cY N).map aw)=b':=by first|rfl|exact aX J1 _|(rw[hj0];rfl)|(rw[hj0.2.2];simp[cY])):=h;exact bG Tryz.func52<|Kp 2 hn<|Kl 0 8 (ln aJ N)<|Mg 0<|kM Nat Nat (List Int) aJ N [3,7,8,9] (fun a _=>([al,aW<|N.map aJ,nV N.length,nV a],[])) (fun a _ b c d=>([aM 0 b 0 c none,aW<|N.map aJ,nV N.length,nV a],[aZ 1 true b<|d.map aw])) (fun a=>cY N=cY a) (fun a _ b c=>b=c.length∧c.length+2*a.length≤2^21+10∧cY N=c++cY a) (by rfl) (fun _ _ _ _ _ a hj0=>Kh 0 a<|Kf 1 (Le.lsn<|rr0 []:Le _ (al))) (fun a _ b _ c d _ e f g _ i hj0=>Kt 0 g<|Mx i<|Ka 11 c.to 1048577 (fun _ _=>Kl 6 26 (dV a)<|Mg 0<|M0 (.ren [1,0] [] [3,7,8,9])<|M1 (.frz 1 [3,7,8,9]) (et rt ti)<|Mf<|e 1 2 [c.from_,c.to]<|by exact⟨rfl,by(have:=gV b f;simp only[lC,lN]<;>(omega)),by rw[hj0,cY];first|rw[Bg (by assumption)]|rw[Bh (by assumption)]⟩) fun _ _=>Kl 0 26 (dV a)<|Mg 0<|M0 (.ren [1,0] [] [3,7,8,9])<|M1 (.frz 1 [3,7,8,9]) (et rt ti)<|Mf<|e 0 1 [c.from_]<|by exact⟨rfl,by(have:=gV b f;simp only[lC,lN]<;>(omega)),by rw[hj0,cY];first|rw[Bg (by assumption)]|rw[Bh (by assumption)]⟩) (fun _ _ a b c _ _ _ d hj0=>Kh 0 d<|Mg 1<|M2 (.fsl 0 [] 2<|c.map aw) ti (ca (aK a) (tA aw c b (by(omega):(c).length=b))<|aX J1 c)<|Ml 2 (fm (c.map aw) false<|aX J1 c)<|Mf<|cQ<|rr0<|c.map aw) fun a _ b c d _ _ e f _ g _ i _ j hj0=>Kt 0 i<|Mx j<|K1 6 .app (ca (aK b) (by(rw[lM];exact hj0.1):c=(d.map aw).length) (by(have z:=hj0.2.1;refine cC (m:=2^22) ?_ ?_ ?_<;>first|(omega)|(simp only[lA,lC,lN]<;>(first|omega|(simp only[oN]at *;omega)))):small (c+1) 8=true))<|M1 (.obj 0<|aZ 1 true (b+1)<|(d++[e.from_]).map aw) (congrArg (aZ 1 true<|b+1)<|dZ (f:=aw) (l:=d) (ws:=[e.from_]))<|Ka 3 e.to 1048577 (fun _ _=>K1 3 .app (ca (aK<|b+1) (by(simp only[lM,lA,lC,lN]<;>(omega)):c+1=((d++[e.from_]).map aw).length) (by(have z:=hj0.2.1;refine cC (m:=2^22) ?_ ?_ ?_<;>first|(omega)|(simp only[lA,lC,lN]<;>(first|omega|(simp only[oN]at *;omega)))):small (c+1+1) 8=true))<|M1 (.obj 0<|aZ 1 true (b+1+1)<|(d++[e.from_]++[e.to]).map aw) (congrArg (aZ 1 true<|b+1+1)<|dZ (f:=aw) (l:=d++[e.from_]) (ws:=[e.to]))<|Kl 1 26 (dV a)<|K1 0 (.frz 1 [3,7,8,9]) (et (tR 1 true (b+1+1) 1<|aX J1<|d++[e.from_]++[e.to]) ti)<|Mf<|g (b+1+1) (c+1+1) (d++[e.from_]++[e.to])<|by exact⟨by(simp only[lA,lC,lN]<;>(omega)),by(have z:=hj0.2.1;simp only[lA,lC,lN]at * <;>(omega)),by rw[hj0.2.2,cY];first|(rw[Bg (by assumption)];simp)|(rw[Bh (by assumption)];simp)⟩) fun _ _=>Kl 0 26 (dV a)<|K1 0 (.frz 1 [3,7,8,9]) (et (tR 1 true (b+1) 1<|aX J1<|d++[e.from_]) ti)<|Mf<|g (b+1) (c+1) (d++[e.from_])<|by exact⟨by(simp only[lA,lC,lN]<;>(omega)),by(have z:=hj0.2.1;simp only[lA,lC,lN]at * <;>(omega)),by rw[hj0.2.2,cY];first|(rw[Bg (by assumption)];simp)|(rw[Bh (by assumption)];simp)⟩
noncomputable abbrev nl:AObj:=.row 1 false 0 [.ps [iV 0] true]
noncomputable abbrev kj(i ep n:Nat):AObj:=.row 1 false 0 [.slice i ep 0 n none]
theorem Eb{α:Type}{f:α→AV}{l:List α}(h:0<l.length):l.map f≠[]:=by
  intro e;have:=congrArg List.length e;simp at this;subst this;simp at h
theorem Wu(d:PDeed)(ss:List PSpan)(B:List Int)(m:List (Int×PStart))(hB:kP 52 [.ls (ss.map aJ)] (.ls (B.map aw)))(hb:B.length=0):
    kD 51 [aq d,.ls (ss.map aJ),.ptr 0 0 0 0] (ab [nl,bo m,da d]) (.tuple []) (ab [nl,bo m,da d]):=by
  let q:=[ax [iV d.act,iV d.item,iV d.day,iV d.it.kind,aW (d.it.at_.map aj),aW (d.it.to.map aj),iV d.it.where_,iV d.it.nth_,iV d.it.unit.act,iV d.it.unit.item,iV d.it.unit.n,iV d.it.unit.kind,aV d.it.unit.label,aW (d.it.unit.head.map aQ),aW (d.it.unit.words.map aQ),aW (d.it.unit.kids.map aY),aW (d.it.old.map nQ),aW (d.it.new.map nQ),aV d.it.label,aV d.it.for_,iV d.it.start.kind,iV d.it.start.day,aV d.it.start.event,iV d.it.act,iV d.it.item,iV d.it.day,aV d.it.event,aW (d.it.by_.map Og)]];let q1:=AHeap.mk 4 (bD (ab [aZ 1 false 0 [iF [iV 0] true],AObj.map (ba av m 0) m.length,aZ 28 false 0 q,aZ 28 false 0 q]) ([]) Tr.nil);let q2:=[iV 0];exact eR Tryz.func51 fun a=>Kp 2 hB<|Mw (.opv (iF q2 true) q1<|.go 0<|.frz 3 [] .fin)<|yQ rt rt (O0 (f:=aw) (l:=B) (sz:=1) (b:=8) (xs:=q2) (t:=true) (h:=q1) (by(omega):(B).length=0)) (jd rt (tM m.length 3<|ah (f:=av) (fun _=>rfl) m 0) rt ti) a
theorem ZM(d:PDeed)(ss:List PSpan)(B:List Int)(m:List (Int×PStart))(hB:kP 52 [.ls (ss.map aJ)] (.ls (B.map aw)))(hb:0<B.length)(hb2:B.length<2^30):
    kD 51 [aq d,.ls (ss.map aJ),.ptr 0 0 0 0] (ab [nl,bo m,da d]) (.tuple []) (ab [kj 3 0 (([0]++B).map aw).length,bo m,da d,m0 0 ([0]++B)]):=by
  let q:=List.map aw ([0]++B);exact eR Tryz.func51 fun a=>Kp 2 hB<|M4 (.apx q) rt rt (et (by exact Eb hb:List.map aw B≠[])<|fM 1 aw B fun _=>rfl) (et (et (aK q) (by(refine cC (m:=2^32) ?_ ?_ ?_<;>first|(omega)|(simp only[lA,lM,lC,lN]<;>(omega))):small (([iV 0]).length+(B.map aw).length) 8=true)) rt)<|Mg 0<|M2 (.ren [0,1,2,4,3] [1,4] []) (tN m.length<|ah (f:=av) (fun _=>rfl) m 0) (tS 1 true 0<|aX J1<|[0]++B)<|M1 (.frz 4 []) (yQ (tR 1 true 0 4<|aX J1<|[0]++B) rt (tM m.length 4<|ah (f:=av) (fun _=>rfl) m 0) rt ti)<|Mf a
theorem ZL(d:PDeed)(ss:List PSpan)(B:List Int)(m:List (Int×PStart))(ep n:Nat)(out:List Int)(hB:kP 52 [.ls (ss.map aJ)] (.ls (B.map aw)))(hb:B.length=0):
    kD 51 [aq d,.ls (ss.map aJ),.ptr 0 0 0 0] (ab [kj 2 ep n,bo m,m0 ep out,da d]) (.tuple []) (ab [kj 2 ep n,bo m,m0 ep out,da d]):=by
  let q:=[ax [iV d.act,iV d.item,iV d.day,iV d.it.kind,aW (d.it.at_.map aj),aW (d.it.to.map aj),iV d.it.where_,iV d.it.nth_,iV d.it.unit.act,iV d.it.unit.item,iV d.it.unit.n,iV d.it.unit.kind,aV d.it.unit.label,aW (d.it.unit.head.map aQ),aW (d.it.unit.words.map aQ),aW (d.it.unit.kids.map aY),aW (d.it.old.map nQ),aW (d.it.new.map nQ),aV d.it.label,aV d.it.for_,iV d.it.start.kind,iV d.it.start.day,aV d.it.start.event,iV d.it.act,iV d.it.item,iV d.it.day,aV d.it.event,aW (d.it.by_.map Og)]];let q1:=AHeap.mk 5 (bD (ab [aZ 1 false 0 [aM 2 ep 0 n none],AObj.map (ba av m 0) m.length,aZ 1 true ep (out.map aw),aZ 28 false 0 q,aZ 28 false 0 q]) ([2]) Tr.nil);exact eR Tryz.func51 fun a=>Kp 2 hB<|Mw (.opv (aM 2 ep 0 n none) q1<|.go 0<|.frz 4 [] .fin)<|yQ rt (iY (tR 1 true ep 5<|aX J1 out) rt) (S0 (f:=aw) (l:=B) (sz:=1) (b:=8) (id:=2) (ep:=ep) (off:=0) (len:=n) (cap:=none) (h:=q1) (by(omega):(B).length=0)) (yQ rt (tR 1 true ep 4<|aX J1 out) (tM m.length 4<|ah (f:=av) (fun _=>rfl) m 0) rt ti) a
theorem ZI(d:PDeed)(ss:List PSpan)(B:List Int)(m:List (Int×PStart))(ep n:Nat)(out:List Int)(hB:kP 52 [.ls (ss.map aJ)] (.ls (B.map aw)))(hb:0<B.length)(hn:n=out.length)(hn2:n+B.length<2^37):
    kD 51 [aq d,.ls (ss.map aJ),.ptr 0 0 0 0] (ab [kj 2 ep n,bo m,m0 ep out,da d]) (.tuple []) (ab [kj 2 (ep+1) (n+(B.map aw).length),bo m,m0 (ep+1) (out++B),da d]):=by
  exact eR Tryz.func51 fun a=>Kp 2 hB<|M4 (.apx<|(out++B).map aw) rt (iY (tR 1 true ep 5<|aX J1 out) rt) (et (by exact Eb hb:List.map aw B≠[])<|fM 1 aw B fun _=>rfl) (et (ca (aK ep) (by(rw[lM];exact hn):n=(out.map aw).length) (by(refine cC (m:=2^37) ?_ ?_ ?_<;>first|(omega)|(simp only[lA,lM,lC,lN]<;>(omega))):small (n+(B.map aw).length) 8=true))<|dZ (f:=aw) (l:=out) (ws:=B))<|K1 0 (.frz 4 []) (yQ rt (tR 1 true (ep+1) 4<|aX J1<|out++B) (tM m.length 4<|ah (f:=av) (fun _=>rfl) m 0) rt ti)<|Mf a
noncomputable def CK(m:List (Int×PStart))(ds:List PDeed)(d:PDeed):List Int:=match bd d.it.kind with|true=>cY (ao (aA m d.act) d ds)|false=>[]
noncomputable def jx(m:List (Int×PStart))(ds:List PDeed):List PDeed→List Int
  |[]=>[]
  |d::r=>CK m ds d++jx m ds r
theorem Bf(s:PStart)(d:PDeed)(l:List PDeed):kP 52 [.ls ((ao s d l).map aJ)] (.ls ((cY (ao s d l)).map aw)):=by
  have hn:=j7 s d l
  have h:=CV (ao s d l) (ny hn.len (by decide))
  have e:fg (ao s d l)=ao s d l:=(Ln hn).symm
  rwa[e]at h
theorem td{m:List (Int×PStart)}{ds r:List PDeed}{d:PDeed}(h:bd d.it.kind=true):jx m ds (d::r)=cY (ao (aA m d.act) d ds)++jx m ds r:=by simp only[jx,CK,h]
theorem KJ{m:List (Int×PStart)}{ds r:List PDeed}{d:PDeed}(h:bd d.it.kind=false):jx m ds (d::r)=jx m ds r:=by simp only[jx,CK,h,sj]
theorem rk(s:PStart)(d:PDeed)(l:List PDeed):(cY (ao s d l)).length≤2^22:=by
  have h:=DA (ao s d l);have:=(j7 s d l).len;omega
theorem RW{B:List Int}(h:B.isEmpty=true):B.length=0:=by rw[List.isEmpty_iff.1 h];rfl
theorem Wf{B:List Int}(h:B.isEmpty=false):0<B.length:=by
  cases B with
  |nil=>cases h
  |cons a r=>exact yO _
theorem IK{B X:List Int}(h:B.isEmpty=true):B++X=X:=by rw[List.isEmpty_iff.1 h];rfl
theorem Yy(s:PStart)(d:PDeed)(l:List PDeed)(m:List (Int×PStart))(hb:By (cY (ao s d l)).isEmpty true):kD 51 [aq d,.ls ((ao s d l).map aJ),.ptr 0 0 0 0] (ab [nl,bo m,da d]) (.tuple []) (ab [nl,bo m,da d]):=Wu d _ _ m (Bf s d l) (RW hb)
theorem Ya(s:PStart)(d:PDeed)(l:List PDeed)(m:List (Int×PStart))(hb:(cY (ao s d l)).isEmpty=true):kD 51 [aq d,.ls ((ao s d l).map aJ),.ptr 0 0 0 0] (ab [nl,bo m,da d]) (.tuple []) (ab [nl,bo m,da d]):=Wu d _ _ m (Bf s d l) (RW hb)
theorem Yv(s:PStart)(d:PDeed)(l:List PDeed)(m:List (Int×PStart))(hb:By (cY (ao s d l)).isEmpty false):kD 51 [aq d,.ls ((ao s d l).map aJ),.ptr 0 0 0 0] (ab [nl,bo m,da d]) (.tuple []) (ab [kj 3 0 (([0]++cY (ao s d l)).map aw).length,bo m,da d,m0 0 ([0]++cY (ao s d l))]):=ZM d _ _ m (Bf s d l) (Wf hb) (ny (rk s d l) (by decide))
theorem Yw(s:PStart)(d:PDeed)(l:List PDeed)(m:List (Int×PStart))(ep n:Nat)(out:List Int)(hb:By (cY (ao s d l)).isEmpty true):kD 51 [aq d,.ls ((ao s d l).map aJ),.ptr 0 0 0 0] (ab [kj 2 ep n,bo m,m0 ep out,da d]) (.tuple []) (ab [kj 2 ep n,bo m,m0 ep out,da d]):=ZL d _ _ m ep n out (Bf s d l) (RW hb)
theorem Yk(s:PStart)(d:PDeed)(l:List PDeed)(m:List (Int×PStart))(ep n:Nat)(out:List Int)(hb:By (cY (ao s d l)).isEmpty false)(hn:n=out.length)(hn2:n<2^36):kD 51 [aq d,.ls ((ao s d l).map aJ),.ptr 0 0 0 0] (ab [kj 2 ep n,bo m,m0 ep out,da d]) (.tuple []) (ab [kj 2 (ep+1) (n+((cY (ao s d l)).map aw).length),bo m,m0 (ep+1) (out++cY (ao s d l)),da d]):=ZI d _ _ m ep n out (Bf s d l) (Wf hb) hn (by have:=rk s d l;omega)
noncomputable def bE(m:List (Int×PStart))(ds:List PDeed)(d:PDeed):Nat:=match(CK m ds d).isEmpty with|true=>0|false=>1
noncomputable def qQ(m:List (Int×PStart))(ds:List PDeed):List PDeed→Nat
  |[]=>0
  |d::r=>bE m ds d+qQ m ds r
theorem ZP{m:List (Int×PStart)}{ds:List PDeed}{d:PDeed}(h:bd d.it.kind=false):bE m ds d=0:=by simp only[bE,CK,h];rfl
theorem ZO{m:List (Int×PStart)}{ds:List PDeed}{d:PDeed}(h:bd d.it.kind=true)(h2:(cY (ao (aA m d.act) d ds)).isEmpty=true):bE m ds d=0:=by simp only[bE,CK,h,h2]
theorem ZR{m:List (Int×PStart)}{ds:List PDeed}{d:PDeed}(h:bd d.it.kind=true)(h2:(cY (ao (aA m d.act) d ds)).isEmpty=false):bE m ds d=1:=by simp only[bE,CK,h,h2]
/-- What the rounds are to tell: 'A' nothing yet, 'B' something. -/
structure BrkA(m:List (Int×PStart))(ds r:List PDeed):Prop where
  f:jx m ds ds=jx m ds r
  e:qQ m ds ds=qQ m ds r
structure BrkB(m:List (Int×PStart))(ds r:List PDeed)(ep n:Nat)(out:List Int):Prop where
  len:n=out.length
  small:out.length+2^22*r.length≤2^22*ds.length+1
  f:[0]++jx m ds ds=out++jx m ds r
  e:qQ m ds ds=ep+1+qQ m ds r
theorem BrkA.no{m:List (Int×PStart)}{ds r:List PDeed}{d:PDeed}(h:BrkA m ds (d::r))(ha:bd d.it.kind=false):BrkA m ds r:=⟨by rw[h.f,KJ ha],by rw[h.e];simp only[qQ,ZP ha,ei]⟩
theorem BrkA.nil{m:List (Int×PStart)}{ds r:List PDeed}{d:PDeed}(h:BrkA m ds (d::r))(ha:bd d.it.kind=true)(hb:(cY (ao (aA m d.act) d ds)).isEmpty=true):BrkA m ds r:=⟨by rw[h.f,td ha,IK hb],by rw[h.e];simp only[qQ,ZO ha hb,ei]⟩
theorem BrkA.new{m:List (Int×PStart)}{ds r:List PDeed}{d:PDeed}{n:Nat}(h:BrkA m ds (d::r))(hl:(d::r).length≤ds.length)(ha:bd d.it.kind=true)(hb:(cY (ao (aA m d.act) d ds)).isEmpty=false)(hn:n=(([0]++cY (ao (aA m d.act) d ds)).map aw).length):BrkB m ds r 0 n ([0]++cY (ao (aA m d.act) d ds)):=by
  have:=rk (aA m d.act) d ds
  refine⟨by rw[hn,lM],by(rw[lA];simp only[lC,lN]at *;omega),by rw[h.f,td ha,mB],by rw[h.e];show bE m ds d+qQ m ds r=_;rw[ZR ha hb]⟩
theorem BrkB.no{m:List (Int×PStart)}{ds r:List PDeed}{d:PDeed}{ep n:Nat}{out:List Int}(h:BrkB m ds (d::r) ep n out)(ha:bd d.it.kind=false):BrkB m ds r ep n out:=⟨h.len,by have:=h.small;simp only[lC]at this;omega,by rw[h.f,KJ ha],by rw[h.e];simp only[qQ,ZP ha,ei]⟩
theorem BrkB.nil{m:List (Int×PStart)}{ds r:List PDeed}{d:PDeed}{ep n:Nat}{out:List Int}(h:BrkB m ds (d::r) ep n out)(ha:bd d.it.kind=true)(hb:(cY (ao (aA m d.act) d ds)).isEmpty=true):BrkB m ds r ep n out:=⟨h.len,by have:=h.small;simp only[lC]at this;omega,by rw[h.f,td ha,IK hb],by rw[h.e];simp only[qQ,ZO ha hb,ei]⟩
theorem BrkB.new{m:List (Int×PStart)}{ds r:List PDeed}{d:PDeed}{ep n k:Nat}{out:List Int}(h:BrkB m ds (d::r) ep n out)(ha:bd d.it.kind=true)(hb:(cY (ao (aA m d.act) d ds)).isEmpty=false)(hk:k=n+((cY (ao (aA m d.act) d ds)).map aw).length):BrkB m ds r (ep+1) k (out++cY (ao (aA m d.act) d ds)):=by
  have:=rk (aA m d.act) d ds
  refine⟨by rw[hk,h.len,lM,lA],by(have:=h.small;simp only[lA,lC]at *;omega),by rw[h.f,td ha,mB],by rw[h.e];simp only[qQ,ZR ha hb];omega⟩
theorem BrkB.done{m:List (Int×PStart)}{ds:List PDeed}{ep n:Nat}{out:List Int}(h:BrkB m ds [] ep n out):ep=qQ m ds ds-1∧n=([0]++jx m ds ds).length∧out=[0]++jx m ds ds:=by
  have e1:=h.f
  simp only[jx,dE]at e1
  have e2:=h.e
  simp only[qQ]at e2
  exact⟨by omega,by rw[e1];exact h.len,e1.symm⟩
theorem OC(gs:List PGaz)(L:List PAct)(ds:List PDeed)(hL:L.length<10000)(hd:ds.length<10000)(ha:kP 67 [.ls (gs.map aa)] (.ls (L.map ay)))(hi:kP 68 [.ls (gs.map aa)] (.ls (ds.map aq)))(hE:jx (jP L []) ds ds=[]):
    kD 47 [.ls (gs.map aa),.func (.func 51) [] [.ptr 0 0 0 0]] (ab [nl]) (.tuple []) (ab [nl]):=by
  have hlk:=pw
  have hup:=rh
  have hno:∀{m:List (Int×PStart)}{r:List PDeed}{d:PDeed},jx m ds (d::r)=[]→bd d.it.kind=true→(cY (ao (aA m d.act) d ds)).isEmpty=true:=fun h h2=>by
    rw[td h2]at h;rw[(List.append_eq_nil_iff.1 h).1];rfl
  let q1:=[iF [iV 0] true];exact eR Tryz.func47 fun a=>Kp 2 ha<|Kl 0 13 (ln ay L)<|Mg 0<|PJ ay L ([]:List (Int×PStart)) [0,1,4,12,13,14] (fun a _ b=>([aW<|gs.map aa,bx (bz 51) [] [bj 0 0 0 0],AV.map 1,aW<|L.map ay,nV L.length,nV a],[aZ 1 false 0 [iF [iV 0] true],AObj.map (ba av b 0) b.length])) (fun a b=>jP L []=jP a b) (by rfl) (fun _ _ b _ _ _ c e=>Kh 0 c<|Kp 0 hi<|Kl 2 27 (ln aq ds)<|Mg 0<|WX (0:Nat) ds () [1,4,7,26,27,28] (fun a _ _=>([bx (bz 51) [] [bj 0 0 0 0],AV.map 1,aW<|ds.map aq,aW<|ds.map aq,nV ds.length,nV a],[aZ 1 false 0 [iF [iV 0] true],AObj.map (ba av b 0) b.length])) (fun a c _=>(ds).drop a=c∧jx b ds c=[]) (fun _ a _=>a.length) (et rfl<|by(rw[←show jP L []=b from e];exact hE)) fun c e f g i=>Mc e (fun c=>have e:=eN g.1 c;have:=gu (J:=fun a _=>jx b ds a=[]) (a:=f) c g.2;Kh 0 e<|M1 (.frz 1 []) (et rt ti)<|Mf a) fun a e j=>let k:=[ax [iV a.act,iV a.item,iV a.day,iV a.it.kind,aW<|a.it.at_.map aj,aW<|a.it.to.map aj,iV a.it.where_,iV a.it.nth_,iV a.it.unit.act,iV a.it.unit.item,iV a.it.unit.n,iV a.it.unit.kind,aV a.it.unit.label,aW<|a.it.unit.head.map aQ,aW<|a.it.unit.words.map aQ,aW<|a.it.unit.kids.map aY,aW<|a.it.old.map nQ,aW<|a.it.new.map nQ,aV a.it.label,aV a.it.for_,iV a.it.start.kind,iV a.it.start.day,aV a.it.start.event,iV a.it.act,iV a.it.item,iV a.it.day,aV a.it.event,aW<|a.it.by_.map Og]];have l:=fY g.1 j;have:=ar l;have n:=eM (enc:=aq) g.1 j;have f:=cj (J:=fun a _=>jx b ds a=[]) (a:=f) j g.2;Kt 0 l<|Mx n<|Kp 5 (jt a.it.kind)<|Mb (bd a.it.kind) (fun _=>K1 4 (.look<|ax [iV (aA b a.act).kind,iV (aA b a.act).day,aV (aA b a.act).event]) (hlk b a.act)<|Kp 1 (gy (aA b a.act) a ds<|by(omega))<|M3 (.efx true (eb [])<|ab [aZ 1 false 0 q1,AObj.map (ba av b 0) b.length,aZ 28 false 0 k]) (jd rt (tM b.length 3<|ah (f:=av) (fun _=>rfl) b 0) rt ti) (jd (aK<|some<|aZ 28 false 0 k) (aK<|some<|AObj.map (ba av b 0) b.length) (aK<|some<|aZ 1 false 0 q1) ti) (Ya (aA b a.act) a ds b<|by exact hno f (by assumption))<|Kl 0 46 (dV c)<|K1 0 (.frz 2 [1,4,7,26,27,28]) (ca (tM b.length 2<|ah (f:=av) (fun _=>rfl) b 0) rt ti)<|Mf<|i (c+1) e () (et (bW g.1 j)<|by(have z:=f;rw[td (by assumption)]at z;exact(List.append_eq_nil_iff.1 z).2))<|dK j) fun _=>Kl 0 46 (dV c)<|K1 0 (.frz 2 [1,4,7,26,27,28]) (ca (tM b.length 2<|ah (f:=av) (fun _=>rfl) b 0) rt ti)<|Mf<|i (c+1) e () (et (bW g.1 j)<|by(have z:=f;rw[KJ (by assumption)]at z;exact z))<|dK j) fun a _ b _ _ c e f _ g _ i j=>Kt 0 g<|Mx i<|K1 7 (.upd (ba av (gr c.number c.start b) 0) (gr c.number c.start b).length) (hup b c)<|Kl 0 23 (dV a)<|K1 0 (.frz 2 [0,1,4,12,13,14]) (ca (tM (gr c.number c.start b).length 2<|ah (f:=av) (fun _=>rfl) (gr c.number c.start b) 0) rt ti)<|Mf<|f (gr c.number c.start b)<|by exact j
def Bw(gs:List PGaz)(L:List PAct)(x0:Nat×List PAct×List (Int×PStart)):Prop:=(L).drop x0.1=x0.2.1∧jP L []=jP x0.2.1 x0.2.2
noncomputable def rj(gs:List PGaz)(L:List PAct)(x0:Nat×List PAct×List (Int×PStart)):List AV×List AObj:=([AV.ls (gs.map aa),AV.func (Fn.func 51) [] [AV.ptr 0 0 0 0],AV.map 1,AV.ls (L.map ay),nV L.length,nV x0.1],[AObj.row 1 false 0 [AV.ps [iV 0] true],AObj.map (ba av x0.2.2 0) x0.2.2.length])
def Bj(ds:List PDeed)(x0:Nat×List PAct×List (Int×PStart))(x1:Nat×List PDeed×Unit):Prop:=(ds).drop x1.1=x1.2.1∧BrkA x0.2.2 ds x1.2.1
noncomputable def rx(ds:List PDeed)(x0:Nat×List PAct×List (Int×PStart))(x1:Nat×List PDeed×Unit):List AV×List AObj:=([AV.func (Fn.func 51) [] [AV.ptr 0 0 0 0],AV.map 1,AV.ls (ds.map aq),AV.ls (ds.map aq),nV ds.length,nV x1.1],[AObj.row 1 false 0 [AV.ps [iV 0] true],AObj.map (ba av x0.2.2 0) x0.2.2.length])
def Bx(ds:List PDeed)(x0:Nat×List PAct×List (Int×PStart))(x1:Nat×List PDeed×Nat×Nat×List Int):Prop:=(ds).drop x1.1=x1.2.1∧BrkB x0.2.2 ds x1.2.1 x1.2.2.1 x1.2.2.2.1 x1.2.2.2.2
noncomputable def Bz(ds:List PDeed)(x0:Nat×List PAct×List (Int×PStart))(x1:Nat×List PDeed×Nat×Nat×List Int):List AV×List AObj:=([AV.func (Fn.func 51) [] [AV.ptr 0 0 0 0],AV.map 1,AV.ls (ds.map aq),AV.ls (ds.map aq),nV ds.length,nV x1.1],[AObj.row 1 false 0 [AV.slice 2 x1.2.2.1 0 x1.2.2.2.1 none],AObj.map (ba av x0.2.2 0) x0.2.2.length,AObj.row 1 true x1.2.2.1 (x1.2.2.2.2.map aw)])
theorem OB(gs:List PGaz)(L:List PAct)(ds:List PDeed)(hL:L.length<10000)(hd:ds.length<10000)(ha:kP 67 [.ls (gs.map aa)] (.ls (L.map ay)))(hi:kP 68 [.ls (gs.map aa)] (.ls (ds.map aq)))(hE:jx (jP L []) ds ds≠[]):
    kD 47 [.ls (gs.map aa),.func (.func 51) [] [.ptr 0 0 0 0]] (ab [nl]) (.tuple []) (ab [kj 1 (qQ (jP L []) ds ds-1) ([0]++jx (jP L []) ds ds).length,m0 (qQ (jP L []) ds ds-1) ([0]++jx (jP L []) ds ds)]):=by
  have hlk:=pw
  have hup:=rh
  let q9:=eb [];let q11:=[iF [iV 0] true];exact Pm Tryz.func47<|Kp 2 ha<|Kl 0 13 (ln ay L)<|Mg 0<|ML (Nat×List PAct×List (Int×PStart)) [0,1,4,12,13,14] (rj gs L) (Bw gs L) (fun a=>a.2.1.length) (0,L,[]) (aK<|rj gs L (0,L,[])) (et (rfl:List.drop 0 (L)=L) (by rfl:(jP L []=jP L []))) fun a b c=>let d:=some<|AObj.map (ba av a.2.2 0) a.2.2.length;Mi (fun a b=>jP L []=jP a b) ay b (fun _ b c=>Kh 0 b<|Kp 0 hi<|Kl 2 27 (ln aq ds)<|Mg 0<|MM (Nat×List PDeed×Unit) (Nat×List PDeed×Nat×Nat×List Int) [1,4,7,26,27,28] (rx ds a) (Bz ds a) (Bj ds a) (Bx ds a) (fun a=>a.2.1.length) (fun a=>a.2.1.length) (.inl (0,ds,())) (aK<|rx ds a (0,ds,())) (et (rfl:List.drop 0 (ds)=ds) (by(exact⟨rfl,rfl⟩):(BrkA a.2.2 ds ds))) (fun b e f=>Mc b.2.1 (fun d=>have f:=eN e.1 d;have b:=gu (J:=fun b _=>BrkA a.2.2 ds b) (a:=b.2.2) d e.2;Kh 0 f<|Mw .abs (by exact hE (by rw[show jP L []=a.2.2 from c];exact b.f):False)) fun c g h=>let i:=[ax [iV c.act,iV c.item,iV c.day,iV c.it.kind,aW<|c.it.at_.map aj,aW<|c.it.to.map aj,iV c.it.where_,iV c.it.nth_,iV c.it.unit.act,iV c.it.unit.item,iV c.it.unit.n,iV c.it.unit.kind,aV c.it.unit.label,aW<|c.it.unit.head.map aQ,aW<|c.it.unit.words.map aQ,aW<|c.it.unit.kids.map aY,aW<|c.it.old.map nQ,aW<|c.it.new.map nQ,aV c.it.label,aV c.it.for_,iV c.it.start.kind,iV c.it.start.day,aV c.it.start.event,iV c.it.act,iV c.it.item,iV c.it.day,aV c.it.event,aW<|c.it.by_.map Og]];let j:=ax [iV (aA a.2.2 c.act).kind,iV (aA a.2.2 c.act).day,aV (aA a.2.2 c.act).event];let k:=List.map aw<|[0]++cY (ao (aA a.2.2 c.act) c ds);have l:=fY e.1 h;have:=ar l;have m:=eM (enc:=aq) e.1 h;have n:=cj (J:=fun b _=>BrkA a.2.2 ds b) (a:=b.2.2) h e.2;Kt 0 l<|Mx m<|Kp 5 (jt c.it.kind)<|Mb (bd c.it.kind) (fun _=>Ms (cY<|ao (aA a.2.2 c.act) c ds).isEmpty (fun k=>K1 4 (.look j) (hlk a.2.2 c.act)<|Kp 1 (gy (aA a.2.2 c.act) c ds<|by(omega))<|M3 (.efx true q9<|ab [aZ 1 false 0 q11,AObj.map (ba av a.2.2 0) a.2.2.length,aZ 28 false 0 i]) (jd rt (tM a.2.2.length 3<|ah (f:=av) (fun _=>rfl) a.2.2 0) rt ti) (jd (aK<|some<|aZ 28 false 0 i) (aK d) (aK<|some<|aZ 1 false 0 q11) ti) (Yy (aA a.2.2 c.act) c ds a.2.2 k)<|Kl 0 46 (dV b.1)<|K1 0 (.frz 2 [1,4,7,26,27,28]) (ca (tM a.2.2.length 2<|ah (f:=av) (fun _=>rfl) a.2.2 0) rt ti)<|Mf<|f (.inl (b.1+1,g,())) (et (bW e.1 h) (by exact n.nil (by assumption) (by assumption):(BrkA a.2.2 ds g)))<|dK h) fun d=>K1 4 (.look j) (hlk a.2.2 c.act)<|Kp 1 (gy (aA a.2.2 c.act) c ds<|by(omega))<|M3 (.efx false q9<|ab [aZ 1 false 0 [aM 3 0 0 k.length none],AObj.map (ba av a.2.2 0) a.2.2.length,aZ 28 false 0 i,aZ 1 true 0 k]) (jd rt (tM a.2.2.length 3<|ah (f:=av) (fun _=>rfl) a.2.2 0) rt ti) ti (Yv (aA a.2.2 c.act) c ds a.2.2 d)<|Kl 0 46 (dV b.1)<|Mg 0<|M2 (.ren [0,1,3,2] [1,3] [1,4,7,26,27,28]) (tN a.2.2.length<|ah (f:=av) (fun _=>rfl) a.2.2 0) (tS 1 true 0<|aX J1<|[0]++cY (ao (aA a.2.2 c.act) c ds))<|M1 (.frz 3 [1,4,7,26,27,28]) (jd (tR 1 true 0 3<|aX J1<|[0]++cY (ao (aA a.2.2 c.act) c ds)) (tM a.2.2.length 3<|ah (f:=av) (fun _=>rfl) a.2.2 0) rt ti)<|Mf<|f (.inr (b.1+1,g,(0,k.length,[0]++cY (ao (aA a.2.2 c.act) c ds)))) (et (bW e.1 h) (by exact n.new (I9 (e.1.trans h)) (by assumption) (by assumption) rfl:(BrkB a.2.2 ds g (0:Nat) (([(0:Int)]++cY (ao (aA a.2.2 c.act) c ds)).map aw).length ([(0:Int)]++cY (ao (aA a.2.2 c.act) c ds)))))<|dK h) fun _=>Kl 0 46 (dV b.1)<|K1 0 (.frz 2 [1,4,7,26,27,28]) (ca (tM a.2.2.length 2<|ah (f:=av) (fun _=>rfl) a.2.2 0) rt ti)<|Mf<|f (.inl (b.1+1,g,())) (et (bW e.1 h) (by exact n.no (by assumption):(BrkA a.2.2 ds g)))<|dK h) fun b e f=>let g:=[aM 2 b.2.2.1 0 b.2.2.2.1 none];let h:=List.map aw b.2.2.2.2;Mc b.2.1 (fun d=>have f:=eN e.1 d;have d:=gu (J:=fun b c=>BrkB a.2.2 ds b c.1 c.2.1 c.2.2) (a:=b.2.2) d e.2;Kh 0 f<|M2 (.ren [0,2,1] [2,1] []) (tS 1 true b.2.2.1<|aX J1 b.2.2.2.2) (tN a.2.2.length<|ah (f:=av) (fun _=>rfl) a.2.2 0)<|M1 (.frz 2 []) (ca (tR 1 true b.2.2.1 2<|aX J1 b.2.2.2.2) rt ti)<|Mf<|et (aK q9) (by(have q:=d.done;rw[show jP L []=a.2.2 from c,q.1,q.2.1,q.2.2]):(ab [AObj.row 1 false 0 [AV.slice 1 b.2.2.1 0 b.2.2.2.1 none],AObj.row 1 true b.2.2.1 (b.2.2.2.2.map aw)])=(ab [kj 1 (qQ (jP L []) ds ds-1) ([0]++jx (jP L []) ds ds).length,m0 (qQ (jP L []) ds ds-1) ([0]++jx (jP L []) ds ds)]))) fun c i j=>let k:=[ax [iV c.act,iV c.item,iV c.day,iV c.it.kind,aW<|c.it.at_.map aj,aW<|c.it.to.map aj,iV c.it.where_,iV c.it.nth_,iV c.it.unit.act,iV c.it.unit.item,iV c.it.unit.n,iV c.it.unit.kind,aV c.it.unit.label,aW<|c.it.unit.head.map aQ,aW<|c.it.unit.words.map aQ,aW<|c.it.unit.kids.map aY,aW<|c.it.old.map nQ,aW<|c.it.new.map nQ,aV c.it.label,aV c.it.for_,iV c.it.start.kind,iV c.it.start.day,aV c.it.start.event,iV c.it.act,iV c.it.item,iV c.it.day,aV c.it.event,aW<|c.it.by_.map Og]];let l:=ax [iV (aA a.2.2 c.act).kind,iV (aA a.2.2 c.act).day,aV (aA a.2.2 c.act).event];let m:=List.map aw<|cY<|ao (aA a.2.2 c.act) c ds;have n:=fY e.1 j;have:=ar n;have o:=eM (enc:=aq) e.1 j;have p:=cj (J:=fun b c=>BrkB a.2.2 ds b c.1 c.2.1 c.2.2) (a:=b.2.2) j e.2;Kt 0 n<|Mx o<|Kp 5 (jt c.it.kind)<|Mb (bd c.it.kind) (fun _=>Ms (cY<|ao (aA a.2.2 c.act) c ds).isEmpty (fun m=>K1 4 (.look l) (hlk a.2.2 c.act)<|Kp 1 (gy (aA a.2.2 c.act) c ds<|by(omega))<|M3 (.efx true q9<|ab [aZ 1 false 0 g,AObj.map (ba av a.2.2 0) a.2.2.length,aZ 1 true b.2.2.1 h,aZ 28 false 0 k]) (yQ rt (tR 1 true b.2.2.1 4<|aX J1 b.2.2.2.2) (tM a.2.2.length 4<|ah (f:=av) (fun _=>rfl) a.2.2 0) rt ti) (yQ (aK<|some<|aZ 28 false 0 k) (aK<|some<|aZ 1 true b.2.2.1 h) (aK d) (aK<|some<|aZ 1 false 0 g) ti) (Yw (aA a.2.2 c.act) c ds a.2.2 b.2.2.1 b.2.2.2.1 b.2.2.2.2 m)<|Kl 0 46 (dV b.1)<|K1 0 (.frz 3 [1,4,7,26,27,28]) (jd (tR 1 true b.2.2.1 3<|aX J1 b.2.2.2.2) (tM a.2.2.length 3<|ah (f:=av) (fun _=>rfl) a.2.2 0) rt ti)<|Mf<|f (.inr (b.1+1,i,(b.2.2.1,b.2.2.2.1,b.2.2.2.2))) (et (bW e.1 j) (by exact p.nil (by assumption) (by assumption):(BrkB a.2.2 ds i b.2.2.1 b.2.2.2.1 b.2.2.2.2)))<|dK j) fun d=>K1 4 (.look l) (hlk a.2.2 c.act)<|Kp 1 (gy (aA a.2.2 c.act) c ds<|by(omega))<|M3 (.efx false q9<|ab [aZ 1 false 0 [aM 2 (b.2.2.1+1) 0 (b.2.2.2.1+m.length) none],AObj.map (ba av a.2.2 0) a.2.2.length,aZ 1 true (b.2.2.1+1)<|(b.2.2.2.2++cY (ao (aA a.2.2 c.act) c ds)).map aw,aZ 28 false 0 k]) (yQ rt (tR 1 true b.2.2.1 4<|aX J1 b.2.2.2.2) (tM a.2.2.length 4<|ah (f:=av) (fun _=>rfl) a.2.2 0) rt ti) ti (Yk (aA a.2.2 c.act) c ds a.2.2 b.2.2.1 b.2.2.2.1 b.2.2.2.2 d (by exact p.len)<|by(have z:=p.small;have z2:=p.len;have z3:=I9 (e.1.trans j);simp only[lC]at z z3;omega))<|Kl 0 46 (dV b.1)<|K1 0 (.frz 3 [1,4,7,26,27,28]) (jd (tR 1 true (b.2.2.1+1) 3<|aX J1<|b.2.2.2.2++cY (ao (aA a.2.2 c.act) c ds)) (tM a.2.2.length 3<|ah (f:=av) (fun _=>rfl) a.2.2 0) rt ti)<|Mf<|f (.inr (b.1+1,i,(b.2.2.1+1,b.2.2.2.1+m.length,b.2.2.2.2++cY (ao (aA a.2.2 c.act) c ds)))) (et (bW e.1 j) (by exact p.new (by assumption) (by assumption) rfl:(BrkB a.2.2 ds i (b.2.2.1+1) (b.2.2.2.1+m.length) (b.2.2.2.2++cY (ao (aA a.2.2 c.act) c ds)))))<|dK j) fun _=>Kl 0 46 (dV b.1)<|K1 0 (.frz 3 [1,4,7,26,27,28]) (jd (tR 1 true b.2.2.1 3<|aX J1 b.2.2.2.2) (tM a.2.2.length 3<|ah (f:=av) (fun _=>rfl) a.2.2 0) rt ti)<|Mf<|f (.inr (b.1+1,i,(b.2.2.1,b.2.2.2.1,b.2.2.2.2))) (et (bW e.1 j) (by exact p.no (by assumption):(BrkB a.2.2 ds i b.2.2.1 b.2.2.2.1 b.2.2.2.2)))<|dK j) fun d e f g _ h i=>Kt 0 g<|Mx h<|K1 7 (.upd (ba av (gr d.number d.start a.2.2) 0) (gr d.number d.start a.2.2).length) (hup a.2.2 d)<|Kl 0 23 (dV a.1)<|K1 0 (.frz 2 [0,1,4,12,13,14]) (ca (tM (gr d.number d.start a.2.2).length 2<|ah (f:=av) (fun _=>rfl) (gr d.number d.start a.2.2) 0) rt ti)<|Mf<|c (a.1+1,e,gr d.number d.start a.2.2) (et (bW b.1 f) (by exact i:(jP L []=jP e (gr d.number d.start a.2.2))))<|dK f
theorem G0(zs:List Int)(ep n:Nat)(hn:n=zs.length)(hz:0<zs.length)(hb:zs.length<2^40):
    kD 53 [.slice 1 ep 0 n none] (ab [kj 1 ep n,m0 ep zs]) (.tuple []) (ab [kj 1 ep n,m0 ep (bK zs)]):=by
  subst hn
  exact(sf (Go.Proofs.Tryz.lsort.f5.enters rfl) (fun blk off cap zs w hH hb hs=>Go.Proofs.AnyM.slices_Sort_int Go.Proofs.Tryz.lsort blk off cap zs w hH hb hs) zs (h:=ab [kj 1 ep zs.length,m0 ep zs]) (id:=1) (op:=true) rfl hz (by omega)).mono fun v h ⟨h3,h4⟩=>⟨h3,h4.trans rfl⟩
theorem Am(zs:List Int)(ep n:Nat)(hn:n=zs.length)(hz:0<zs.length)(hb:zs.length<2^40):
    kD 54 [.slice 1 ep 0 n none] (ab [kj 1 ep n,m0 ep zs]) (.slice 1 ep 0 (an zs).length none) (ab [kj 1 ep n,m0 ep (an zs++List.replicate (zs.length-(an zs).length) 0)]):=by
  subst hn
  exact(oC (Go.Proofs.Tryz.lcompact.f43.enters rfl) (fun blk off cap zs w hH hb hs=>Go.Proofs.AnyG.slices_Compact_int Go.Proofs.Tryz.lcompact blk off cap zs w hH hb hs) zs (h:=ab [kj 1 ep zs.length,m0 ep zs]) (id:=1) (op:=true) rfl hz (by omega)).mono fun v h ⟨h3,h4⟩=>⟨h3,h4.trans rfl⟩
noncomputable def Wx:Option (AV×AHeap)→Bool
  |some (.tuple [],_)=>true
  |_=>false
noncomputable def Wz:Option (AV×AHeap)→Bool
  |some (.ps [.int .i64 n] true,_)=>af n 0
  |_=>false
theorem VC{f:FuncId}{a:List AV}(k:Nat)(ht:az a=0)(h:Wx (fT C k f a AHeap.none)=true):kP f a (.tuple []):=by
  cases hx:fT C k f a AHeap.none with
  |none=>rw[hx]at h;cases h
  | some r=>
    obtain⟨v,h1⟩:=r
    rw[hx]at h
    have e:v=.tuple []:=by
      unfold Wx at h
      split at h
      · rename_i q;cases q;rfl
      · cases h
    subst e
    exact lU fz ht rfl ((aL.of (ev k) hx).mono fun v1 _ e=>e.1)
theorem VB{f:FuncId}{a:List AV}(k:Nat)(ht:az a=0)(h:Wz (fT C k f a AHeap.none)=true):aC Tryz.prog G f a (.ps [.int .i64 0] true):=by
  cases hx:fT C k f a AHeap.none with
  |none=>rw[hx]at h;cases h
  | some r=>
    obtain⟨v,h1⟩:=r
    rw[hx]at h
    have e:v=.ps [.int .i64 0] true:=by
      unfold Wz at h
      split at h
      · rename_i q;cases q;rw[fL h]
      · cases h
    subst e
    exact lU fz ht rfl ((aL.of (ev k) hx).mono fun v1 _ e=>e.1)
theorem P3:kP 53 [.ps [iV 0] true] (.tuple []):=VC 60 rfl (by kernel_rfl)
theorem H5:aC Tryz.prog G 54 [.ps [.int .i64 0] true] (.ps [.int .i64 0] true):=VB 60 rfl (by kernel_rfl)
theorem aaU(gs:List PGaz)(hc:kD 47 [.ls (gs.map aa),.func (.func 51) [] [.ptr 0 0 0 0]] (ab [nl]) (.tuple []) (ab [nl])):kP 31 [.ls (gs.map aa)] (.ls (([0]:List Int).map aw)):=by
  exact bG Tryz.func31<|Ke 5 hc<|Kp 0 P3<|Kp 0 H5<|Kf 0 (fm [iV 0] _<|by rfl:Le _ (AV.ps [iV 0] true))
theorem rn(X:List Int):(bK X).length=X.length:=(List.mergeSort_perm X _).length_eq
theorem aaT(gs:List PGaz)(X:List Int)(k:Nat)(hz:0<X.length)(hb:X.length<2^40)(hc:kD 47 [.ls (gs.map aa),.func (.func 51) [] [.ptr 0 0 0 0]] (ab [nl]) (.tuple []) (ab [kj 1 k X.length,m0 k X])):kP 31 [.ls (gs.map aa)] (.ls ((an (bK X)).map aw)):=by
  have hs:=rn X
  have rr0 b' (h:((an (bK X)).map aw)=b':=by(rw[List.take_left'];rfl)):=h;exact bG Tryz.func31<|Ke 5 hc<|Ke 0 (G0 X k X.length (by(omega)) hz hb)<|Ke 0 (Am (bK X) k X.length (by(omega)) (by(omega))<|by(omega))<|Mg 0<|M2 (.fsl 0 [] 2<|((an (bK X)++List.replicate ((bK X).length -(an<|bK X).length) 0).take (an<|bK X).length).map aw) ti (ca (aK k) (wT (f:=aw) (l:=an (bK X)++List.replicate ((bK X).length -(an<|bK X).length) 0) (n:=(an<|bK X).length))<|aX J1<|(an (bK X)++List.replicate ((bK X).length -(an<|bK X).length) 0).take (an<|bK X).length)<|Ml 2 (fm (((an (bK X)++List.replicate ((bK X).length -(an<|bK X).length) 0).take (an<|bK X).length).map aw) false<|aX J1<|(an (bK X)++List.replicate ((bK X).length -(an<|bK X).length) 0).take (an<|bK X).length)<|Mf<|cQ<|rr0<|((an (bK X)++List.replicate ((bK X).length -(an<|bK X).length) 0).take (an<|bK X).length).map aw
theorem H4:an (bK [0])=[0]:=by
  have e:bK [0]=[0]:=List.mergeSort_singleton 0
  rw[e];rfl
/-- The program's days: in order, each once. -/
theorem ZN(gs:List PGaz)(L:List PAct)(ds:List PDeed)(hL:L.length<10000)(hd:ds.length<10000)(ha:kP 67 [.ls (gs.map aa)] (.ls (L.map ay)))(hi:kP 68 [.ls (gs.map aa)] (.ls (ds.map aq))):
    kP 31 [.ls (gs.map aa)] (.ls ((an (bK ([0]++jx (jP L []) ds ds))).map aw)):=by
  by_cases hE:jx (jP L []) ds ds=[]
  · have h:=aaU gs (OC gs L ds hL hd ha hi hE)
    rw[hE]
    have e:an (bK ([0]++[]))=[0]:=H4
    rw[e];exact h
  · have hl:∀(r:List PDeed),(jx (jP L []) ds r).length≤2^22*r.length:=by
      intro r
      induction r with
      |nil=>exact aB _
      | cons d r ih=>
        have h1:(CK (jP L []) ds d).length≤2^22:=by
          unfold CK
          cases bd d.it.kind
          · exact bL _
          · exact rk _ _ _
        simp only[jx,lA,lC];omega
    have:=hl ds
    exact aaT gs ([0]++jx (jP L []) ds ds) (qQ (jP L []) ds ds-1) (by simp) (by rw[lA];simp only[lC,lN];omega) (OB gs L ds hL hd ha hi hE)
/-- What the amendments' days begin and end; in order, each once. -/
noncomputable def bpF(gs:List PGaz):List Int:=jx (jP (b7 gs) []) (gd gs) (gd gs)
noncomputable def kp(gs:List PGaz):List Int:=an (bK ([0]++bpF gs))
theorem OkG.brk{gs:List PGaz}(h:OkG gs):kP 31 [.ls (gs.map aa)] (.ls ((kp gs).map aw)):=by
  have hl:=h.lens
  exact ZN gs _ _ (by omega) (by omega) h.all.1 h.all.2
theorem Ix:∀{l:List PSpan},(∀s,s∈l→0≤s.from_∧s.from_<s.to∧s.to≤1048577)→∀z,z∈cY l→0≤z∧z<1048577
  | s::r,h,z,hz=>by
    have hs:=h s (dI ..)
    rw[cY]at hz
    rcases iG.1 hz with q|q
    · unfold Ij at q
      cases e:aF s.to 1048577<;>rw[e]at q
      · simp at q;omega
      · have:=ar e;simp at q;omega
    · exact Ix (fun x hx=>h x (eW _ hx)) z q
theorem MS(m:List (Int×PStart))(ds:List PDeed):∀(r:List PDeed)(z:Int),z∈jx m ds r→0≤z∧z<1048577
  | d::r,z,hz=>by
    rw[jx]at hz
    rcases iG.1 hz with q|q
    · unfold CK at q
      cases e:bd d.it.kind<;>rw[e]at q
      · cases q
      · exact Ix (j7 _ _ _).ok z q
    · exact MS m ds r z q
theorem o7{l:List Int}{z:Int}:z∈an (bK l)↔z∈l:=((tc (pQ l)).2 z).trans (jD l).mem_iff
theorem vB(l:List Int):(an (bK l)).Pairwise (fun a b=>a<b):=(tc (pQ l)).1
theorem yI(gs:List PGaz):∀z,z∈kp gs→0≤z∧z<1048577:=fun z hz=>by
  rcases iG.1 (o7.1 hz)with q|q
  · rw[n7]at q;omega
  · exact MS _ _ _ z q
theorem Bc(gs:List PGaz):(0:Int)∈kp gs:=o7.2 (n6 _ (n7.2 rfl))
theorem Yb{gs:List PGaz}{z:Int}(h:z∈bpF gs):z∈kp gs:=o7.2 (qq _ h)
theorem Rg{l:List Int}(hp:l.Pairwise (fun a b=>a<b))(hb:∀z,z∈l→0≤z)(h0:(0:Int)∈l):∃r,l=0::r:=by
  cases l with
  |nil=>cases h0
  | cons a r=>
    rcases fQ.1 h0 with q|q
    · exact⟨r,by rw[←q]⟩
    · have:=(ji.1 hp).1 0 q
      have:=hb a (dI ..)
      omega
theorem zA:∀{l:List Int}{lo hi:Int},l.Pairwise (fun a b=>a<b)→(∀z,z∈l→lo≤z∧z<hi)→lo≤hi→(Int.ofNat l.length)≤hi-lo
  |[],lo,hi,_,_,h=>by simp only[lN,oN];omega
  | a::r,lo,hi,hp,hb,h=>by
    obtain⟨h1,h2⟩:=ji.1 hp
    obtain⟨q1,q2⟩:=hb a (dI ..)
    have:=zA (lo:=a+1) (hi:=hi) h2 (fun z hz=>⟨by have:=h1 z hz;omega,(hb z (eW _ hz)).2⟩) (by omega)
    simp only[lC,oN]at *;omega
theorem vU(gs:List PGaz):(kp gs).length≤1048577:=by
  have:=zA (vB _) (yI gs) (by omega)
  simp only[oN]at this
  show(an (bK ([0]++bpF gs))).length≤_
  omega
theorem M5:∀{l:List PSpan}{s:PSpan},s∈l→s.from_∈cY l∧(aF s.to 1048577=true→s.to∈cY l)
  | a::r,s,h=>by
    rw[cY]
    rcases fQ.1 h with rfl|h
    · cases e:aF s.to 1048577 with
      |true=>rw[Bg e];simp
      |false=>rw[Bh e];simp
    · obtain⟨k1,k2⟩:=M5 h
      exact⟨qq _ k1,fun e=>qq _ (k2 e)⟩
/-- Between boundaries nothing changes: of spans, of what is in force, of the book. -/
theorem C6{l:List PSpan}(h:NrmS l){x y d:Int}(hz:∀z,z∈cY l→z≤x∨y≤z)(hy:y≤1048577)(h1:x≤d)(h2:d<y):iZ l d=iZ l x:=by
  rw[Ey h,Ey h]
  have key:∀s,s∈l→((s.from_≤d∧d<s.to)↔(s.from_≤x∧x<s.to)):=fun s hs=>by
    obtain⟨k1,k2⟩:=M5 hs
    have k3:=hz _ k1
    have k4:=(h.ok s hs).2.2
    cases e:aF s.to 1048577 with
    |true=>have:=hz _ (k2 e);omega
    |false=>have:=aG e;omega
  rw[xI,gq,gq]
  grind
theorem CO(p:aR)(m:List (Int×PStart))(ds:List PDeed){x y d:Int}(hy:y≤1048577)(h1:x≤d)(h2:d<y):∀(r:List PDeed),(∀z,z∈jx m ds r→z≤x∨y≤z)→qC d p m ds r=qC x p m ds r
  |[],_=>rfl
  | e::r,h=>by
    have ih:=CO p m ds hy h1 h2 r fun z hz=>h z (by rw[jx];exact qq _ hz)
    cases ha:bd e.it.kind with
    |false=>rw[Gv ha,Gv ha,ih]
    | true=>
      have hb:s5 d p m ds e=s5 x p m ds e:=by
        unfold s5
        rw[C6 (j7 _ _ _) (fun z hz=>h z (by rw[td ha];exact n6 _ hz)) hy h1 h2]
      cases q:s5 x p m ds e with
      |true=>rw[Gw ha q,Gw ha (hb.trans q),ih]
      |false=>rw[CN q,CN (hb.trans q),ih]
theorem Ld(p:aR)(m:List (Int×PStart))(ds:List PDeed){d:Int}(h:d<0∨1048576<d):∀(r:List PDeed),qC d p m ds r=[]
  |[]=>rfl
  | e::r=>by
    have ih:=Ld p m ds h r
    have hb:s5 d p m ds e=false:=by
      unfold s5
      rw[QO (j7 _ _ _) h,tD]
    rw[CN hb,ih]
theorem vq(gs:List PGaz)(p:aR){d:Int}(h:d<0∨1048576<d):js d p gs=vf:=by
  unfold js
  rw[show fS d p gs=[]from Ld p _ _ h _];rfl
theorem Bd(gs:List PGaz)(p:aR){x y d:Int}(hz:∀z,z∈kp gs→z≤x∨y≤z)(hy:y≤1048577)(h1:x≤d)(h2:d<y):js d p gs=js x p gs:=by
  unfold js
  rw[show fS d p gs=fS x p gs from CO p _ _ hy h1 h2 _ fun z h=>hz z (Yb h)]
/-- Two lists' books differ on a day; the days, as spans. -/
noncomputable def x8(a b:List PGaz)(p:aR)(d:Int):Bool:=ak (Hr (js d p a) (js d p b))
noncomputable def ET(a b:List PGaz):List Int:=an (bK (kp a++kp b))
noncomputable def OA(a b:List PGaz)(p:aR):List PSpan:=fg (di (x8 a b p) (ET a b++[1048577]))
theorem SD{a b:List PGaz}{z:Int}(h:z∈kp a):z∈ET a b:=o7.2 (n6 _ h)
theorem Zi{a b:List PGaz}{z:Int}(h:z∈kp b):z∈ET a b:=o7.2 (qq _ h)
theorem J6(a b:List PGaz):∀z,z∈ET a b→0≤z∧z<1048577:=fun z hz=>by
  rcases iG.1 (o7.1 hz)with q|q
  · exact yI a z q
  · exact yI b z q
theorem MH(a b:List PGaz):(ET a b).length≤1048577:=by
  have:=zA (vB _) (J6 a b) (by omega)
  simp only[oN]at this
  show(an (bK (kp a++kp b))).length≤_
  omega
theorem NI(a b:List PGaz)(p:aR){x y:Int}(hz:∀z,z∈ET a b++[1048577]→z≤x∨y≤z)(d:Int)(h1:x≤d)(h2:d<y):x8 a b p d=x8 a b p x:=by
  have k0:=hz 0 (n6 _ (SD (Bc a)))
  have k1:=hz 1048577 (qq _ (n7.2 rfl))
  unfold x8
  by_cases hx:x<0∨1048576<x
  · have hd:d<0∨1048576<d:=by omega
    rw[vq a p hd,vq b p hd,vq a p hx,vq b p hx]
  · have hy:y≤1048577:=by omega
    rw[Bd a p (fun z h=>hz z (n6 _ (SD h))) hy h1 h2,Bd b p (fun z h=>hz z (n6 _ (Zi h))) hy h1 h2]
theorem GG:∀(r:List Int)(a F:Int),qM a (r++[F])=F
  |[],_,_=>rfl
  |c::r,_,F=>GG r c F
theorem VD(a b:List PGaz)(p:aR)(d:Int):HJ (OA a b p) d=(Fw d&&x8 a b p d):=by
  obtain⟨r,hr⟩:=Rg (vB (kp a++kp b)) (fun z hz=>(J6 a b z hz).1) (SD (Bc a))
  have hr:ET a b=0::r:=hr
  have hp:(ET a b++[1048577]).Pairwise (fun a b=>a<b):=List.pairwise_append.2 ⟨vB _,List.pairwise_singleton ..,fun x hx y hy=>by rw[n7.1 hy];exact(J6 a b x hx).2⟩
  have z:=zi (g:=x8 a b p) (C:=ET a b++[1048577]) (fun x y hz d h1 h2=>NI a b p hz d h1 h2) (r++[1048577]) 0 (by rw[hr]at hp;exact hp) (fun z hz=>by
    rw[hr]at hz
    rcases fQ.1 hz with q|q
    · exact .inl (by omega)
    · exact .inr q) d
  rw[GG]at z
  have e:OA a b p=fg (di (x8 a b p) (0::(r++[1048577]))):=by unfold OA;rw[hr];rfl
  rw[L4,e,v9,z]
  unfold Fw
  grind
theorem Xy(a b:Nat):Lp (.ofNat a) (.ofNat b)=.ofNat (Nat.min a b):=by
  rw[Ek,show Nat.min a b=min a b from rfl];simp only[oN];omega
theorem ZX{n:Nat}(h0:0<n)(hn:n<2^30):eg (xq 1 8 (iV 0) (ab []) (some .nils) (some (nV n)))=some (.val (.slice 0 0 0 n none) (ab [.row 1 true 0 (List.replicate n (iV 0))])):=by
  have e1:small n 8=true:=cC (m:=2^30) (by omega) (by decide) (by decide)
  have e2:Nat.ble 1 n=true:=qb h0
  have e3:(List.replicate n (AV.int .i64 0)).length=n:=pD ..
  unfold xq Gu
  simp only[e1,e2,wo,show Nat.ble 1 1=true from rfl,show dg 1 [AV.int .i64 0]=true from rfl]
  unfold hJ
  rw[e3];rfl
theorem AH(gs:List PGaz)(n:Nat)(hn:n≤gs.length)(hl:gs.length<2^30):kP 41 [nV n,.ls (gs.map aa)] (.ls ((gs.take n).map aa)):=by
  have e:Nat.min (Nat.max n 0) gs.length=n:=by show min (max n 0) gs.length=n;omega
  have rr0 b' (h:((gs.take n).map aa)=b':=by(rw[e])):=h;exact bG Tryz.func41<|Kl 3 7 (nY (k:=IntKind.i64)<|QL n 0)<|Kl 1 9 (ln aa gs)<|Kl 0 10 (nY (k:=IntKind.i64)<|Xy (n.max 0) gs.length)<|M1 (.slp<|(gs.take<|(n.max 0).min gs.length).map aa) (ca (hM 4 aa gs fun _=>rfl) (et (oA:0≤(n.max 0).min gs.length) (by(simp only[oN,lM,lS]at *;omega):(n.max 0).min gs.length≤(gs.map aa).length))<|K6 (f:=aa) (l:=gs) (h:=(n.max 0).min gs.length))<|Kf 0<|cQ<|rr0<|(gs.take<|(n.max 0).min gs.length).map aa
theorem GM(gs:List PGaz)(ok:OkG gs)(n:Nat)(day:Int)(p:aR)(hn:n≤gs.length):kP 19 [nV n,iV day,.str p,.ls (gs.map aa)] (eU (js day p (gs.take n))):=by
  have hl:=ok.len
  have hf:=AH gs n hn (by omega)
  have hb:=(ok.sub (hs:=gs.take n) (by rw[qk];omega) fun g hg=>mU hg).book day p
  exact bG Tryz.func19<|Kp 4 hf<|Mp hb<|Kf 0<|bh<|ax [iV (js day p<|gs.take n).act,iV (js day p<|gs.take n).item,iV (js day p<|gs.take n).n,iV (js day p<|gs.take n).kind,aV (js day p<|gs.take n).label,aW<|List.map aQ (js day p<|gs.take n).head,aW<|List.map aQ (js day p<|gs.take n).words,aW<|List.map aY (js day p<|gs.take n).kids]
theorem PF(gs:List PGaz)(n:Nat)(h1:1≤n)(hn:n≤gs.length)(hl:gs.length<2^30):kP 43 [nV n,.ls (gs.map aa)] (.bool true):=by
  have g1:aF (.ofNat n) 1=false:=iO (by simp only[oN];omega)
  have g2:aF (.ofNat gs.length) (.ofNat n)=false:=iO (by simp only[oN];omega)
  have rr0 b' (h:(true)=b':=by(simp only[aS,ak,bS, *];first|done|rfl)):=h;exact bG Tryz.func43<|Kt 3 (ch g1)<|Kt 0 (ch g1)<|Kt 0 (ch g1)<|Kl 0 10 (ln aa gs)<|Mt (ch g1)<|Ku 0 (ch g1)<|Kf 0<|cA<|rr0<|ak<|aF (Int.ofNat gs.length)<|Int.ofNat n
theorem Qc(gs:List PGaz)(ok:OkG gs)(n:Nat)(day:Int)(p:aR)(hn0:1≤n)(hn:n≤gs.length):kP 45 [nV n,iV day,.str p,.ls (gs.map aa)] (.bool (x8 (gs.take (n-1)) (gs.take n) p day)):=by
  have hl:=ok.len
  have ha:=GM gs ok (n-1) day p (by omega)
  have hb:=GM gs ok n day p hn
  have oa:=Gb ((ok.sub (hs:=gs.take (n-1)) (by rw[qk];omega) fun g hg=>mU hg).okB day p)
  have ob:=Gb ((ok.sub (hs:=gs.take n) (by rw[qk];omega) fun g hg=>mU hg).okB day p)
  have he:=Pr _ oa _ ob
  exact bG Tryz.func45<|Kl 2 10 (yz n)<|Kp 2 ha<|Kp 3 hb<|Mp he<|Kf 1<|bh<|eA<|ak<|Hr (js day p<|gs.take<|n-1)<|js day p<|gs.take n
theorem rL(n:Nat)(hp:0<n)(hn:n<2^30):kD 78 [.nils,nV n] (ab []) (.slice 0 0 0 0 none) (ab [.row 1 true 0 (List.replicate n (iV 0))]):=by
  let q:=iV 0;exact eR Tryz.func78 fun a=>Kl 10 14 (b0 (x:=Int.ofNat n-(0:Int)) (n:=n-0) fJ)<|Ka 2 0 (Int.ofNat<|n-0) (fun _ _=>Ko 4 (by exact ZX hp hn:eg (xq (1) (8) q (ab []) ((some (AV.nils))) ((some (nV (n-0)))))=some (ARes.val (AV.slice 0 0 0 n none) (ab [AObj.row 1 true 0 (List.replicate n q)])))<|Kf 5 a) fun _ _=>Mg 1<|Mw .abs (by(exfalso;(simp only[oN]at *;omega)):False)
theorem WB{H:AHeap}{id sz ep off len n bt:Nat}{op:Bool}{xs new ys:List AV}{x:AV}(hg:H.get id=some (.row sz op ep xs))(hx:kX H x=some new)(hf:dg sz new=true)(hne:new≠[])(hl:off+len+new.length≤xs.length)(hs:small (len+new.length) bt=true)(e1:len+new.length=n)(e2:bv xs (off+len) new=ys):
    eg (co sz bt H (some (.slice id ep off len none)) (some x))=some (.val (.slice id ep off n none) (H.put id (.row sz op ep ys))):=by
  subst e1
  cases new with
  |nil=>simp_all
  | cons y r=>
    simp_all[qb,co,fG,gk,eg]
theorem ZD(X Y:List Int){n:Nat}(h:n=X.length+Y.length):bv (List.replicate n (iV 0)) 0 (X.map aw)=X.map aw++List.replicate Y.length (iV 0):=by
  subst h
  unfold bv
  rw[List.take_zero,sj,lM,ei,List.drop_replicate,Nat.add_sub_cancel_left]
theorem ZC(X Y:List Int):bv (X.map aw++List.replicate Y.length (iV 0)) X.length (Y.map aw)=(X++Y).map aw:=by
  unfold bv
  rw[List.take_left' (cZ ..),Ck (by simp),dE,qY]
theorem Oo(X Y:List Int)(hx:X.length<2^22)(hy:Y.length<2^22)(hx0:0<X.length)(hy0:0<Y.length):kD 63 [.ps [.ls (X.map aw),.ls (Y.map aw)] true] (ab []) (.slice 0 0 0 (X.length+Y.length) none) (ab [m0 0 (X++Y)]):=by
  let q:=ab [aZ 1 true 0 (X.map aw++List.replicate Y.length (iV 0))];let q1:=aM 0 0 0 X.length none;exact eR Tryz.func63 fun a=>Mg 4<|M0 (.un 3)<|Kl 7 17 (ln aw X)<|Kl 0 18 (b0 (x:=(0:Int)+Int.ofNat X.length) (n:=(0:Nat)+X.length) fJ)<|Kl 13 17 (ln aw Y)<|Kl 0 18 (b0 (x:=Int.ofNat ((0:Nat)+X.length)+Int.ofNat Y.length) (n:=(0:Nat)+X.length+Y.length) fJ)<|Ke 8 (rL (0+X.length+Y.length) (by(omega))<|by(omega))<|Mg 3<|M0 (.un 3)<|Ko 6 (by exact WB (new:=X.map aw) rfl rfl (fD (sz:=1) (f:=aw) (fun _=>rfl) X) (Eb hx0) (by rw[lM,lR];omega) (cC (m:=2^30) (by rw[lM];omega) (by decide) (by decide)) (by rw[lM];omega) (ZD X Y (by omega)):eg (co (1) (8) (ab [AObj.row 1 true 0 (List.replicate (0+X.length+Y.length) (iV 0))]) ((some (AV.slice 0 0 0 0 none))) ((some (AV.ls (X.map aw)))))=some (ARes.val q1 q))<|Ko 9 (by exact WB (new:=Y.map aw) rfl rfl (fD (sz:=1) (f:=aw) (fun _=>rfl) Y) (Eb hy0) (by rw[lA,lM,lM,lR];omega) (cC (m:=2^30) (by rw[lM];omega) (by decide) (by decide)) (by rw[lM]) (by rw[ei];exact ZC X Y):eg (co (1) (8) q ((some q1)) ((some (AV.ls (Y.map aw)))))=some (ARes.val (AV.slice 0 0 0 (X.length+Y.length) none) (ab [AObj.row 1 true 0 ((X++Y).map aw)])))<|Kf 6 a
theorem MN(gs:List PGaz):0<(kp gs).length:=List.length_pos_of_mem (Bc gs)
theorem QI:∀{l m:List Int},l.Pairwise (fun a b=>a<b)→(∀z,z∈l→z∈m)→l.length≤m.length
  |[],_,_,_=>bL _
  | a::r,m,hp,hs=>by
    obtain⟨p1,p2⟩:=ji.1 hp
    have ha:=hs a (dI ..)
    have ih:=QI (m:=m.erase a) p2 fun z hz=>(List.mem_erase_of_ne (by have:=p1 z hz;omega)).2 (hs z (eW _ hz))
    rw[List.length_erase_of_mem ha]at ih
    have:=List.length_pos_of_mem ha
    simp only[lC];omega
theorem Zh(a b:List PGaz):(ET a b).length<(kp a).length+(kp b).length:=by
  obtain⟨r,hr⟩:=Rg (vB ([0]++bpF b)) (fun z hz=>(yI b z hz).1) (Bc b)
  have hr:kp b=0::r:=hr
  have:=QI (l:=ET a b) (m:=kp a++r) (vB _) fun z hz=>by
    rcases iG.1 (o7.1 hz)with q|q
    · exact n6 _ q
    · rw[hr]at q
      rcases fQ.1 q with q|q
      · rw[q];exact n6 _ (Bc a)
      · exact qq _ q
  rw[hr];simp only[lA,lC]at *;omega
/-- The row of the points, as the program leaves it. -/
noncomputable def YQ(a b:List PGaz):List Int:=ET a b++List.replicate ((bK (kp a++kp b)).length -(ET a b).length) 0
theorem X9(a b:List PGaz):(ET a b).length<(YQ a b).length∧(YQ a b).take (ET a b).length=ET a b:=by
  have:=Zh a b
  have h2:(bK (kp a++kp b)).length=(kp a).length+(kp b).length:=by rw[rn,lA]
  refine⟨?_,List.take_left' rfl⟩
  unfold YQ
  rw[lA,lR,h2];omega
theorem Yc{R B:List Int}(h:R.take B.length=B)(hl:B.length<R.length):(R.set B.length 1048577).take (B.length+1)=B++[1048577]:=by
  rw[yy (by rw[lS];exact hl),List.take_set_of_le (aB _),h,Ju hl,if_pos rfl]
theorem SL(gs:List PGaz)(n:Nat)(X Y:List Int)(hn0:1≤n)(hn:n≤gs.length)(hl:gs.length<2^30)(hf:kP 41 [nV n,.ls (gs.map aa)] (.ls ((gs.take n).map aa)))(hf1:kP 41 [nV (n-1),.ls (gs.map aa)] (.ls ((gs.take (n-1)).map aa)))
    (ha:kP 31 [.ls ((gs.take (n-1)).map aa)] (.ls (X.map aw)))(hb:kP 31 [.ls ((gs.take n).map aa)] (.ls (Y.map aw)))(hx0:0<X.length)(hy0:0<Y.length)(hx:X.length<2^22)(hy:Y.length<2^22):
    kD 44 [nV n,.ls (gs.map aa)] (ab []) (.slice 0 0 0 (an (bK (X++Y))).length none) (ab [m0 0 (an (bK (X++Y))++List.replicate ((bK (X++Y)).length -(an (bK (X++Y))).length) 0)]):=by
  have q1:(X++Y).length=X.length+Y.length:=dL ..
  have q2:=rn (X++Y)
  have hc:=Oo X Y hx hy hx0 hy0
  generalize X++Y=Z at *
  exact eR Tryz.func44 fun a=>Kl 2 7 (yz n)<|Kp 0 hf1<|Mp ha<|Kp 1 hf<|Mp hb<|Ke 0 hc<|Ke 1 (Al Z 0 (X.length+Y.length) (by(omega)) (by(omega))<|by(omega))<|Ke 0 (sl (bK Z) 0 (X.length+Y.length) (by(omega)) (by(omega))<|by(omega))<|Kf 0 a
theorem OM(gs:List PGaz)(ok:OkG gs)(n:Nat)(hn0:1≤n)(hn:n≤gs.length):
    kD 44 [nV n,.ls (gs.map aa)] (ab []) (.slice 0 0 0 (ET (gs.take (n-1)) (gs.take n)).length none) (ab [m0 0 (YQ (gs.take (n-1)) (gs.take n))]):=by
  have hl:=ok.len
  have oa:OkG (gs.take (n-1)):=ok.sub (by rw[qk];omega) fun g hg=>mU hg
  have ob:OkG (gs.take n):=ok.sub (by rw[qk];omega) fun g hg=>mU hg
  have:=vU (gs.take (n-1));have:=vU (gs.take n)
  exact SL gs n _ _ hn0 hn (by omega) (AH gs n hn (by omega)) (AH gs (n-1) (by omega) (by omega)) oa.brk ob.brk (MN _) (MN _) (by omega) (by omega)
theorem WU{g:Int→Bool}{B E r:List Int}{w:Int}{i:Nat}(hE:E=B++[1048577])(hd:B.drop i=w::r)(hg:g w=true):di g ((w::r)++[1048577])=⟨w,gD E (i+1)⟩::di g (r++[1048577]):=by
  have hi:i<B.length:=by
    have:=congrArg List.length hd
    rw[wm,lC]at this;omega
  have e:E.drop (i+1)=r++[1048577]:=by
    rw[hE,List.drop_append_of_le_length (by omega),←yR,hd];rfl
  have z:=yE (show i+1<E.length by rw[hE,lA];simp only[lC,lN];omega)
  rw[e]at z
  cases r with
  | nil=>
    rw[sj]at z
    show di g [w,1048577]=_
    rw[oZ,hg,(List.cons.inj z).1];rfl
  | cons c r=>
    show di g (w::c::(r++[1048577]))=_
    rw[oZ,hg,←(List.cons.inj z).1];rfl
theorem Wq{g:Int→Bool}{r:List Int}{w:Int}(hg:g w=false):di g ((w::r)++[1048577])=di g (r++[1048577]):=by
  cases r with
  |nil=>show di g [w,1048577]=_;rw[oZ,hg];rfl
  |cons c r=>show di g (w::c::(r++[1048577]))=_;rw[oZ,hg];rfl
theorem SK{E B:List Int}(h:E=B++[1048577]):E.take (E.length-1)=B:=by rw[h,lA];simp
def CJ(gs:List PGaz)(n:Nat)(p:aR)(B:List Int)(z8:List Int):Prop:=z8=B++[(1048577:Int)]
noncomputable def CW(gs:List PGaz)(n:Nat)(p:aR)(B:List Int)(z8:List Int):List AV×List AObj:=([nV n,AV.str p,AV.ls (gs.map aa),AV.nils,AV.ls (z8.map aw)],[])
def yJ(gs:List PGaz)(n:Nat)(p:aR)(g:Int→Bool)(z8:List Int)(x0:Nat×List Int×Unit):Prop:=(z8.take (z8.length-1)).drop x0.1=x0.2.1∧di g z8=di g (x0.2.1++[(1048577:Int)])
noncomputable def pP(gs:List PGaz)(n:Nat)(p:aR)(g:Int→Bool)(z8:List Int)(x0:Nat×List Int×Unit):List AV×List AObj:=([nV n,AV.str p,AV.ls (gs.map aa),AV.nils,AV.ls (z8.map aw),AV.ls ((z8.take (z8.length-1)).map aw),nV (z8.take (z8.length-1)).length,nV x0.1],[])
def yW(gs:List PGaz)(n:Nat)(p:aR)(B:List Int)(g:Int→Bool)(z8:List Int)(x0:Nat×List Int×Nat×Nat×List PSpan):Prop:=(z8.take (z8.length-1)).drop x0.1=x0.2.1∧x0.2.2.2.1=x0.2.2.2.2.length∧di g z8=x0.2.2.2.2++di g (x0.2.1++[(1048577:Int)])∧x0.2.2.2.1+x0.2.1.length≤B.length
noncomputable def yX(gs:List PGaz)(n:Nat)(p:aR)(B:List Int)(g:Int→Bool)(z8:List Int)(x0:Nat×List Int×Nat×Nat×List PSpan):List AV×List AObj:=([nV n,AV.str p,AV.ls (gs.map aa),AV.slice 0 x0.2.2.1 0 x0.2.2.2.1 none,AV.ls (z8.map aw),AV.ls ((z8.take (z8.length-1)).map aw),nV (z8.take (z8.length-1)).length,nV x0.1],[AObj.row 2 true x0.2.2.1 (x0.2.2.2.2.map aJ)])
theorem OD(gs:List PGaz)(n:Nat)(p:aR)(R B:List Int)(g:Int→Bool)(hn0:1≤n)(hn:n≤gs.length)(hl:gs.length<2^30)(hB:B.length≤1048577)(hR:B.length<R.length)(hT:R.take B.length=B)(hR2:R.length<2^30)
    (hb:kD 44 [nV n,.ls (gs.map aa)] (ab []) (.slice 0 0 0 B.length none) (ab [m0 0 R]))
    (ht:kP 43 [nV n,.ls (gs.map aa)] (.bool true))
    (ho:∀d,kP 45 [nV n,iV d,.str p,.ls (gs.map aa)] (.bool (g d))):
    kP 22 [nV n,.str p,.ls (gs.map aa)] (.ls ((fg (di g (B++[1048577]))).map aJ)):=by
  have rr0 b' (h:((fg (di g (B++[1048577]))).map aJ)=b':=by first|rfl|(rw[←hz8,hj0];rfl)|(rw[←hz8,hj0.2.1];exact congrArg (fun x=>(fg x).map aJ) (dE _))):=h;let q:=List.map aw ((R.set B.length 1048577).take (B.length+1));let q3:=[iV 1048577];exact bG Tryz.func22<|Kp 2 ht<|Mg 2<|Mj (List Int) [0,1,2,7,8] (CW gs n p B) (CJ gs n p B) (fun a=>Ke 1 hb<|Mg 0<|Mw (.opv (aM 0 0 0 (B.length+1) none) (ab [aZ 1 true 0<|(R.set B.length 1048577).map aw])<|.go 0<|.fsl 0 [0,1,2,7] 8 q<|.le 8 (aW q) .fin)<|yQ (Yg (sz:=1) (b:=8) (id:=0) (ep:=0) (len:=B.length) (op:=true) (h:=ab [aZ 1 true 0<|R.map aw]) (xs:=List.map aw R) (new:=q3) (xs':=List.map aw<|R.set B.length 1048577) (x:=iF q3 true) (by kernel_rfl) (by kernel_rfl) rt (kN _ _) (bR (by(omega):B.length+1≤(R).length)<|tC (cZ ..).symm) (NY (f:=aw) (g:=aw) (fun _=>rfl) (l:=R) (k:=B.length) (w:=1048577) (by(omega):B.length<(R).length)) (by(refine cC (m:=2^31) ?_ ?_ ?_<;>first|omega|decide):small (B.length+1) 8=true)) ti (ca (aK 0) (wT (f:=aw) (l:=R.set B.length 1048577) (n:=B.length+1))<|aX J1<|(R.set B.length 1048577).take<|B.length+1) (fm q false<|aX J1<|(R.set B.length 1048577).take<|B.length+1)<|a ((R.set B.length 1048577).take<|B.length+1) (by exact Yc hT hR:List.take (B.length+1) (R.set B.length (1048577:Int))=B++[(1048577:Int)])) fun a hz8=>have hz8:=hz8;have:a.length=B.length+1:=(by rw[hz8,lA];rfl);have b:(a.take (a.length-1)).length=a.length-1:=(by rw[qk];omega);Kl 2 22 (ln aw a)<|Kl 0 23 (yz a.length)<|M1 (.slp<|(a.take<|a.length-1).map aw) (ca (hM 1 aw a fun _=>rfl) (et (oA:0≤a.length-1) (by(simp only[oN,lM,lS]at *;omega):a.length-1≤(a.map aw).length))<|K6 (f:=aw) (l:=a) (h:=a.length-1))<|Kl 0 25 (ln aw<|List.take (a.length-1) a)<|Mg 0<|MM (Nat×List Int×Unit) (Nat×List Int×Nat×Nat×List PSpan) [0,1,2,7,8,24,25,26] (pP gs n p g a) (yX gs n p B g a) (yJ gs n p g a) (yW gs n p B g a) (fun x=>x.2.1.length) (fun x=>x.2.1.length) (.inl (0,List.take (a.length-1) a,())) (aK<|pP gs n p g a (0,List.take (a.length-1) a,())) (et (rfl:List.drop 0 (a.take (a.length-1))=List.take (a.length-1) a) (by(rw[SK hz8,hz8]):(di g a=di g (a.take (a.length-1)++[(1048577:Int)])))) (fun c e f=>Mc c.2.1 (fun b=>have f:=eN e.1 b;have hj0:=gu (J:=fun b x=>di g a=di g (b++[(1048577:Int)])) (a:=c.2.2) b e.2;Kh 0 f<|Kp 0 qE<|Kf 0<|cQ<|rr0<|(fg []).map aJ) fun i j k=>have l:=fY e.1 k;have:=ar l;have o:=eM (enc:=aw) e.1 k;have hj0:=cj (J:=fun b x=>di g a=di g (b++[(1048577:Int)])) (a:=c.2.2) k e.2;Kt 0 l<|Kx 0 o<|Kp 6 (ho i)<|Mb (g i) (fun _=>Kl 4 40 (jk c.1)<|Mx (bY aw (by(simp only[oN,lM,lS]at *;omega):c.1+1<(a).length))<|Kl 5 46 (jk c.1)<|Kf 0<|f (.inr (c.1+1,j,(0,1,[PSpan.mk i<|gD a<|c.1+1]))) (et (bW e.1 k) (by exact⟨rfl,by rw[hj0,WU hz8 (by have z:=e.1.trans k;rw[SK hz8]at z;exact z) (by assumption)];rfl,(by have z:=gV e.1 k;rw[b]at z;show 1+j.length≤B.length;omega)⟩:((1:Nat)=[PSpan.mk i (gD a (c.1+1))].length∧di g a=[PSpan.mk i (gD a (c.1+1))]++di g (j++[(1048577:Int)])∧(1:Nat)+j.length≤B.length)))<|dK k) fun _=>Kl 0 46 (jk c.1)<|Kf 0<|f (.inl (c.1+1,j,())) (et (bW e.1 k) (by exact hj0.trans (Wq (by assumption)):(di g a=di g (j++[(1048577:Int)]))))<|dK k) fun b c e=>let f:=List.map aJ b.2.2.2.2;Mc b.2.1 (fun e=>have i:=eN c.1 e;have hj0:=gu (J:=fun b x=>x.2.1=x.2.2.length∧di g a=x.2.2++di g (b++[(1048577:Int)])∧x.2.1+b.length≤B.length) (a:=b.2.2) e c.2;Kh 0 i<|Mg 0<|M2 (.fsl 0 [] 47 f) ti (ca (aK b.2.2.1) (tA aJ b.2.2.2.2 b.2.2.2.1 (by(omega):(b.2.2.2.2).length=b.2.2.2.1))<|aX Wm b.2.2.2.2)<|Ml 47 (fm f false<|aX Wm b.2.2.2.2)<|Mp (gU b.2.2.2.2<|by(omega))<|Kf 0<|cQ<|rr0<|(fg b.2.2.2.2).map aJ) fun f i j=>have k:=fY c.1 j;have:=ar k;have l:=eM (enc:=aw) c.1 j;have hj0:=cj (J:=fun b x=>x.2.1=x.2.2.length∧di g a=x.2.2++di g (b++[(1048577:Int)])∧x.2.1+b.length≤B.length) (a:=b.2.2) j c.2;Kt 0 k<|Kx 0 l<|Kp 6 (ho f)<|Mb (g f) (fun _=>Kl 4 40 (jk b.1)<|Mx (bY aw (by(simp only[oN,lM,lS]at *;omega):b.1+1<(a).length))<|K1 2 .app (ca (aK b.2.2.1) (by(rw[lM];exact hj0.1):b.2.2.2.1=(b.2.2.2.2.map aJ).length) (by(have z:=hj0.2.2;simp only[lC]at z;refine cC (m:=2^23) ?_ ?_ ?_<;>first|omega|decide):small (b.2.2.2.1+1) 16=true))<|M1 (.obj 0<|aZ 2 true (b.2.2.1+1)<|(b.2.2.2.2++[PSpan.mk f<|gD a<|b.1+1]).map aJ) (congrArg (aZ 2 true<|b.2.2.1+1)<|dZ (f:=aJ) (l:=b.2.2.2.2) (ws:=[PSpan.mk f<|gD a<|b.1+1]))<|Kl 1 46 (jk b.1)<|Kf 0<|e (.inr (b.1+1,i,(b.2.2.1+1,b.2.2.2.1+1,b.2.2.2.2++[PSpan.mk f<|gD a<|b.1+1]))) (et (bW c.1 j) (by exact⟨by rw[lA,←hj0.1];rfl,by rw[hj0.2.1,WU hz8 (by have z:=c.1.trans j;rw[SK hz8]at z;exact z) (by assumption)];simp,by(have z:=hj0.2.2;simp only[lC]at z;omega)⟩:(b.2.2.2.1+1=(b.2.2.2.2++[PSpan.mk f (gD a (b.1+1))]).length∧di g a=b.2.2.2.2++[PSpan.mk f (gD a (b.1+1))]++di g (i++[(1048577:Int)])∧b.2.2.2.1+1+i.length≤B.length)))<|dK j) fun _=>Kl 0 46 (jk b.1)<|Kf 0<|e (.inr (b.1+1,i,(b.2.2.1,b.2.2.2.1,b.2.2.2.2))) (et (bW c.1 j) (by exact⟨hj0.1,by rw[hj0.2.1,Wq (by assumption)],by(have z:=hj0.2.2;simp only[lC]at z;omega)⟩:(b.2.2.2.1=b.2.2.2.2.length∧di g a=b.2.2.2.2++di g (i++[(1048577:Int)])∧b.2.2.2.1+i.length≤B.length)))<|dK j
theorem J8(gs:List PGaz)(ok:OkG gs)(n:Nat)(p:aR)(hn0:1≤n)(hn:n≤gs.length):kP 22 [nV n,.str p,.ls (gs.map aa)] (.ls ((OA (gs.take (n-1)) (gs.take n) p).map aJ)):=by
  have hl:=ok.len
  have hr:=X9 (gs.take (n-1)) (gs.take n)
  have h2:(YQ (gs.take (n-1)) (gs.take n)).length<2^30:=by
    have:=vU (gs.take (n-1));have:=vU (gs.take n)
    have e:(bK (kp (gs.take (n-1))++kp (gs.take n))).length=(kp (gs.take (n-1))).length+(kp (gs.take n)).length:=by rw[rn,lA]
    have:=MH (gs.take (n-1)) (gs.take n)
    unfold YQ
    rw[lA,lR,e];omega
  exact OD gs n p (YQ (gs.take (n-1)) (gs.take n)) (ET (gs.take (n-1)) (gs.take n)) _ hn0 hn (by omega) (MH _ _) hr.1 hr.2 h2 (OM gs ok n hn0 hn) (PF gs n hn0 hn (by omega)) fun d=>Qc gs ok n d p hn0 hn
theorem U8(l:List PSpan)(d:Int)(hl:l.length<2^60):kP 24 [.ls (l.map aJ),iV d] (.bool (HJ l d)):=by
  have rr0 b' (h:(HJ l d)=b':=by(simp only[HJ,Au,mA,oP,aS,ak,bS, *];done)):=h;exact bG Tryz.func24<|Mg 1<|tu aJ l [0,1,5] (fun a _=>([aW<|l.map aJ,iV d,nV a],[])) (fun a=>l.any (Au d)=a.any (Au d)) (by rfl) (fun _ _ _ _ _ a _=>Kl 2 8 (ln aJ l)<|Kh 0 a<|Ky 0<|rr0 false) fun a _ _ _ b c e _ f _ g _=>Kl 2 8 (ln aJ l)<|Kt 0 f<|Kd 2 d 0 (fun f _=>Kt 0 (ch f)<|Ku 0 (ch f)<|Kd 0 1048576 d (fun f _=>Kt 0 (ch f)<|Kt 0 (ch f)<|Mx g<|Mt (ch f)<|Kt 0 (ch f)<|Kt 0 (ch f)<|Kt 0 (ch f)<|Ku 0 (ch f)<|Kd 0 d b.from_ (fun f _=>Kt 0 (ch f)<|Kt 0 (ch f)<|Kt 0 (ch f)<|Mx g<|Mt (ch f)<|Kt 0 (ch f)<|Kt 0 (ch f)<|Ku 0 (ch f)<|Mb (aF d b.to) (fun a=>have:=ar a;Ky 0<|rr0 true) fun b=>have:=aG b;Kl 1 11 (dV a)<|Kf 0<|e<|by simp only[Au,mA,oP,aS,ak,bS, *]at *) fun b _=>Mh (cb b)<|Mh (cb b)<|Mh (cb b)<|Mh (cb b)<|Mh (cb b)<|Mh (cb b)<|My (cb b)<|Kl 2 11 (dV a)<|Kf 0<|e<|by simp only[Au,mA,oP,aS,ak,bS, *]at *) fun b _=>Mh (cb b)<|Mh (cb b)<|Mh (cb b)<|Mh (cb b)<|Mh (cb b)<|Mh (cb b)<|My (cb b)<|Kl 4 11 (dV a)<|Kf 0<|e<|by simp only[Au,mA,oP,aS,ak,bS, *]at *) fun b _=>Mh (cb b)<|My (cb b)<|Kl 6 11 (dV a)<|Kf 0<|e<|by simp only[Au,mA,oP,aS,ak,bS, *]at *
theorem RT(gs:List PGaz)(p:aR)(hf:pH gs):kP 17 [.ls (gs.map aa),.str p] (.bool (Ov gs p)):=by
  have rr0 b' (h:(Ov gs p)=b':=by simp only[Ov,aS,ak,bS, *]):=h;exact bG Tryz.func17<|Kp 1 (Vx gs 24 hf oA oA)<|Kb 0 (Oy gs 24) (fun a=>Kt 0 a<|Kt 0 a<|Ku 0 a<|Kf 0<|cA<|rr0<|ak<|aF 60<|Int.ofNat<|List.length p) fun a=>Mh a<|Mh a<|My a<|Ky 0<|rr0 false
/-- What the law's last part calls. -/
structure RvC(gs:List PGaz)(n:Nat)(day:Int)(p:aR)(u v:TUnit)(one past:Bool)(D T:List PSpan)(R:List Int):Prop where
  b1:kP 19 [nV (n-1),iV day,.str p,.ls (gs.map aa)] (eU u)
  b2:kP 19 [nV n,iV day,.str p,.ls (gs.map aa)] (eU v)
  s:kP 20 [eU u,eU v] (.bool one)
  r:kP 23 [iV day,.str p,.ls (gs.map aa)] (.ls (R.map aw))
  c:kP 22 [nV n,.str p,.ls (gs.map aa)] (.ls (D.map aJ))
  hc:kP 24 [.ls (D.map aJ),iV day] (.bool (ak one))
  t:kP 25 [nV n,.str p,.ls (gs.map aa)] (.ls (T.map aJ))
  ht:kP 24 [.ls (T.map aJ),iV day] (.bool past)
/-- Whether a gazette contains an item, refers to it or declares an event. -/
noncomputable def pc(x:PItem)(a i:Int):Bool:=af x.kind 10||(aF 6 x.kind&&(af x.act a&&(af x.item i||af x.item (-1))))
noncomputable def pS(b:PAct)(a i:Int):Bool:=af b.number a||b.items.any fun x=>pc x a i
noncomputable def lW(g:PGaz)(a i:Int):Bool:=g.acts.any fun b=>pS b a i
theorem yA{V:Type}(k j:Int)(v:V):∀(m:List (Int×V)),fx j (gr k v m)=match af j k with|true=>some v|false=>fx j m
  |[]=>by simp only[gr,fx];cases af j k<;>rfl
  | (i,u)::r=>by
    rw[gr]
    cases q:af k i with
    |true=>have:=fL q;subst this;simp only[fx];cases af j k<;>rfl
    | false=>
      simp only[fx]
      cases q2:af j i with
      | true=>
        have:=fL q2;subst this
        cases q3:af j k with
        |true=>have:=fL q3;subst this;rw[q]at q3;cases q3
        |false=>rfl
      |false=>exact yA k j v r
theorem uM{a b:Int×Int}:gH a b=true↔a=b:=by
  unfold gH
  constructor
  · intro h
    have h:=jM.1 h
    exact Prod.ext (fL h.1) (fL h.2)
  · rintro rfl;simp only[bZ,wE]
theorem L5{V:Type}(k j:Int×Int)(v:V):∀(m:List ((Int×Int)×V)),iS gH j (fV gH k v m)=match gH j k with|true=>some v|false=>iS gH j m
  |[]=>by simp only[fV,iS];cases gH j k<;>rfl
  | (i,u)::r=>by
    rw[fV]
    cases q:gH k i with
    |true=>have:=uM.1 q;subst this;simp only[iS];cases gH j k<;>rfl
    | false=>
      simp only[iS]
      cases q2:gH j i with
      | true=>
        have:=uM.1 q2;subst this
        cases q3:gH j k with
        |true=>have:=uM.1 q3;subst this;rw[q]at q3;cases q3
        |false=>rfl
      |false=>exact L5 k j v r
theorem yb(k:Int):∀(l:List PAct)(m m2:List (Int×PStart)),fx k m=fx k m2→fx k (jP l m)=fx k (jP (l.filter fun a=>af k a.number) m2)
  |[],_,_,h=>h
  | a::r,m,m2,h=>by
    cases q:af k a.number with
    | true=>
      rw[show(a::r).filter (fun a=>af k a.number)=a::r.filter fun a=>af k a.number from oO q]
      exact yb k r _ _ (by rw[yA,yA,q])
    | false=>
      rw[show(a::r).filter (fun a=>af k a.number)=r.filter fun a=>af k a.number from oM (by rw[q];decide)]
      exact yb k r _ _ (by rw[yA,q];exact h)
noncomputable def OL(k:Int×Int)(x:PItem):Bool:=af x.kind 11&&gH k (x.act,x.item)
theorem rS(k:Int×Int):∀(l:List PItem)(m m2:List ((Int×Int)×PItem)),iS gH k m=iS gH k m2→iS gH k (l.foldl fw m)=iS gH k ((l.filter (OL k)).foldl fw m2)
  |[],_,_,h=>h
  | x::r,m,m2,h=>by
    have z:∀m,iS gH k (fw m x)=match OL k x&&(aF 0 (Int.ofNat x.by_.length)&&bd (gD x.by_ 0).kind)with|true=>some (gD x.by_ 0)|false=>iS gH k m:=fun m=>by
      unfold fw OL
      cases af x.kind 11<;>cases aF 0 (Int.ofNat x.by_.length)<;>cases bd (gD x.by_ 0).kind <;>simp only[Bool.and_true,tD,wo,wt,if_true,L5]<;>cases gH k (x.act,x.item)<;>rfl
    cases q:OL k x with
    | true=>
      rw[oO q]
      exact rS k r _ _ (by rw[z,z,h])
    | false=>
      rw[oM (by rw[q];decide)]
      exact rS k r _ _ (by rw[z,q];exact h)
theorem On{m:List ((Int×Int)×PItem)}{x:PItem}(hm:∀e,e∈m→bd e.2.kind=true):∀e,e∈fw m x→bd e.2.kind=true:=by
  unfold fw
  split
  · rename_i h
    simp only[bq]at h
    intro e he
    rcases zh he with q|q
    · exact hm e q
    · rw[q];exact h.2
  · exact hm
theorem Dl:∀(xs:List PItem)(m:List ((Int×Int)×PItem)),(∀e,e∈m→bd e.2.kind=true)→∀e,e∈xs.foldl fw m→bd e.2.kind=true
  |[],_,hm=>hm
  |x::r,m,hm=>Dl r (fw m x) (On hm)
theorem ta(l:List PAct)(m:List ((Int×Int)×PItem)):ap l m=(l.flatMap fun a=>a.items).foldl fw m:=by
  unfold ap;rw[List.foldl_flatMap]
theorem Eu(m:ry)(o:PDeed):(iz m o).act=o.act∧(iz m o).item=o.item:=by
  unfold iz;split<;>exact⟨rfl,rfl⟩
theorem RF{m:ry}(hm:∀e,e∈m→bd e.2.kind=true){T:PDeed→Bool}(hT:∀d,bd d.it.kind=true→T d=false):∀(l:List PDeed),(l.map (iz m)).filter T=l.filter T
  |[]=>rfl
  | o::r=>by
    have ih:=RF hm hT r
    rw[dn]
    by_cases hc:(oy m o&&bd o.it.kind)=true
    · have h2:=(jM.1 hc).2
      have h1:T (iz m o)=false:=by
        refine hT _ ?_
        have e:iz m o=⟨o.act,o.item,o.day,zX m o⟩:=by unfold iz;rw[if_pos hc]
        rw[e]
        show bd (zX m o).kind=true
        have hc:=(jM.1 hc).1
        unfold oy at hc
        unfold zX
        cases q:iS gH (o.act,o.item) m with
        |none=>rw[q]at hc;cases hc
        | some v=>
          obtain⟨e,e1,e2⟩:=AB q
          have:=hm e e1
          rw[e2]at this;exact this
      rw[oM (by rw[h1];decide),oM (by rw[hT o h2];decide),ih]
    · have e:iz m o=o:=by unfold iz;rw[if_neg hc]
      rw[e,qU,qU,ih]
theorem Et{X:Type}{F:PAct→List X}{r:PAct→Bool}:∀{l:List PAct},(∀b,b∈l→r b=false→F b=[])→l.flatMap F=(l.filter r).flatMap F
  |[],_=>rfl
  | b::t,h=>by
    have ih:=Et (l:=t) fun c hc=>h c (eW _ hc)
    rw[Cj,ih]
    cases q:r b with
    |true=>rw[oO q,Cj]
    |false=>rw[oM (by rw[q];decide),h b (dI ..) q];rfl
theorem Cn:∀(ys out:List PAct),∃N,ys.foldl iM out=out++N∧∀b,b∈N→b∈ys∧∀c,c∈out→c.number≠b.number
  |[],out=>⟨[],(dE _).symm,fun b hb=>by cases hb⟩
  | a::r,out=>by
    obtain⟨N,h1,h2⟩:=Cn r (iM out a)
    rw[ly,h1]
    cases q:fx a.number (out.map fun b=>(b.number,true))with
    | some v=>
      have e:iM out a=out:=by unfold iM;rw[q]
      rw[e]at h2
      rw[e]
      exact⟨N,rfl,fun b hb=>⟨eW _ (h2 b hb).1,(h2 b hb).2⟩⟩
    | none=>
      have e:iM out a=out++[a]:=by unfold iM;rw[q]
      rw[e]at h2
      rw[e]
      refine⟨a::N,by rw[mB];rfl,fun b hb=>?_⟩
      rcases fQ.1 hb with rfl|hb
      · exact⟨dI ..,oc (out:=out) q⟩
      · exact⟨eW _ (h2 b hb).1,fun c hc=>(h2 b hb).2 c (n6 _ hc)⟩
/-- Whether an act's number was known. -/
noncomputable def Ft(A:List PAct)(b:PAct):Bool:=A.any fun c=>af c.number b.number
theorem ve(gs:List PGaz)(g:PGaz):(b7 (gs++[g])).filter (Ft (b7 gs))=b7 gs∧∀b,b∈b7 (gs++[g])→Ft (b7 gs) b=false→b∈g.acts:=by
  obtain⟨N,h1,h2⟩:=Cn g.acts (bJ gs [])
  have hf:bJ (gs++[g]) []=bJ gs []++N:=by
    rw[←h1];simp only[bJ,List.foldl_append,ly,List.foldl_nil]
  have hy:∀b,b∈bJ gs []→Ft (b7 gs) b=true:=fun b hb=>List.any_eq_true.2 ⟨b,(jZ gs).mem_iff.2 hb,bZ _⟩
  have hn:∀b,b∈N→Ft (b7 gs) b=false:=fun b hb=>by
    cases q:Ft (b7 gs) b with
    |false=>rfl
    | true=>
      obtain⟨c,c1,c2⟩:=List.any_eq_true.1 q
      exact absurd (fL c2) ((h2 b hb).2 c ((jZ gs).mem_iff.1 c1))
  refine⟨FP iC ?_ ((tP iC (bJ (gs++[g]) []) [] .nil).2.filter _) fun u v hu hv h1 h2=>rZ gs [] (fun _ _ h=>by cases h) u v hu hv (by
    rw[←Bool.not_eq_true,oF]at h1 h2;omega),fun b hb hw=>?_⟩
  · refine((jZ (gs++[g])).filter _).trans ?_
    rw[hf,List.filter_append,List.filter_eq_self.2 hy,y6.2 (fun b hb=>by rw[hn b hb];decide),dE]
  · have hb:=(jZ (gs++[g])).mem_iff.1 hb
    rw[hf]at hb
    rcases iG.1 hb with hb|hb
    · rw[hy b hb]at hw;cases hw
    · exact(h2 b hb).1
theorem rq(a:PAct):∀(l:List PItem)(i:Nat)(d:PDeed),d∈b6 a l i→d.act=a.number
  |[],_,d,h=>by cases h
  | x::r,i,d,h=>by
    rcases fQ.1 h with rfl|h
    · rfl
    · exact rq a r _ d h
theorem JF{f:PDeed→PDeed}{F u:PDeed→Bool}(hu:∀o,u (f o)=u o):∀{l:List PDeed},(∀d,d∈(l.map f).filter F→u d=true)→(l.map f).filter F=((l.filter u).map f).filter F
  |[],_=>rfl
  | o::r,h=>by
    rw[dn]at h
    have ih:=JF (F:=F) hu (l:=r) fun d hd=>h d (by
      rw[qU];split
      · exact eW _ hd
      · exact hd)
    rw[dn,qU,ih]
    cases q:F (f o)with
    | true=>
      have:=h (f o) (by rw[oO q];exact dI ..)
      rw[hu]at this
      rw[if_pos rfl,oO this,dn,oO q]
    | false=>
      rw[if_neg (by decide)]
      cases w:u o with
      |true=>rw[oO w,dn,oM (by rw[q];decide)]
      |false=>rw[oM (by rw[w];decide)]
theorem RS{f1 f2:PDeed→PDeed}{F1 F2:PDeed→Bool}:∀{l:List PDeed},(∀o,o∈l→f1 o=f2 o∧F1 (f1 o)=F2 (f1 o))→(l.map f1).filter F1=(l.map f2).filter F2
  |[],_=>rfl
  | o::r,h=>by
    have ih:=RS (l:=r) fun x hx=>h x (eW _ hx)
    obtain⟨e1,e2⟩:=h o (dI ..)
    rw[dn,dn,qU,qU,ih,e2,e1]
theorem nc(d:PDeed):∀(l:List PDeed)(days:List PSpan),iI d l days=iI d (l.filter fun o=>fq o.it.kind&&g0 o.it d.act d.item) days
  |[],_=>rfl
  | o::r,days=>by
    cases q:fq o.it.kind&&g0 o.it d.act d.item with
    |true=>rw[show(o::r).filter (fun o=>fq o.it.kind&&g0 o.it d.act d.item)=o::r.filter fun o=>fq o.it.kind&&g0 o.it d.act d.item from oO q];exact nc d r _
    | false=>
      rw[show(o::r).filter (fun o=>fq o.it.kind&&g0 o.it d.act d.item)=r.filter fun o=>fq o.it.kind&&g0 o.it d.act d.item from oM (by rw[q];decide)]
      have e:nL d o days=days:=by unfold nL;rw[q]
      show iI d r (nL d o days)=_
      rw[e];exact nc d r _
theorem R4(nm:aR):∀(l:List PDeed)(i:Nat),(iP nm l i= -1∧(l.filter (lF nm)).head? =none)∨∃k,iP nm l i=Int.ofNat (i+k)∧(l.filter (lF nm)).head? =some (gD l k)
  |[],_=>.inl ⟨rfl,rfl⟩
  | d::r,i=>by
    cases q:lF nm d with
    |true=>exact .inr ⟨0,Wh q,by rw[oO q];rfl⟩
    | false=>
      rw[Wi q,oM (by rw[q];decide)]
      rcases R4 nm r (i+1)with⟨h1,h2⟩|⟨k,h1,h2⟩
      · exact .inl ⟨h1,h2⟩
      · exact .inr ⟨k+1,by rw[h1];congr 1;omega,h2⟩
theorem Jr(s:PStart){l m:List PDeed}(h:l.filter (lF s.event)=m.filter (lF s.event)):jc s l=jc s m:=by
  unfold jc
  rcases R4 s.event l 0 with⟨h1,h2⟩|⟨k,h1,h2⟩<;>rcases R4 s.event m 0 with⟨g1,g2⟩|⟨j,g1,g2⟩
  · rw[h1,g1];rfl
  · rw[h,g2]at h2;cases h2
  · rw[←h,h2]at g2;cases g2
  · have e:gD l k=gD m j:=by rw[h,g2]at h2;exact(Fc h2).symm
    have z1:(Int.ofNat (0+k)).toNat=k:=by simp only[ei];rfl
    have z2:(Int.ofNat (0+j)).toNat=j:=by simp only[ei];rfl
    have y1:aF (Int.ofNat (0+k)) 0=false:=iO (by simp only[oN];omega)
    have y2:aF (Int.ofNat (0+j)) 0=false:=iO (by simp only[oN];omega)
    rw[h1,g1,y1,y2,z1,z2,e]
theorem Ie{k:Int}(h:bd k=true):k≤6:=by
  unfold bd at h
  have h:=(jM.1 h).2
  cases q:aF 6 k with
  |true=>rw[q]at h;cases h
  |false=>exact aG q
theorem TZ{k j:Int}(h:bd k=true)(hj:6<j):af k j=false:=by
  have:=Ie h
  cases q:af k j with
  |false=>rfl
  |true=>have:=fL q;omega
theorem KR{k:Int}(h:fq k=true):6<k:=by
  unfold fq qO at h
  simp only[qj]at h
  rcases h with(h|h)|h<;>have:=fL h<;>omega
theorem Re{x:PItem}{a i:Int}(h:(fq x.kind&&g0 x a i)=true):pc x a i=true:=by
  have h:=jM.1 h
  have z:=KR h.1
  unfold g0 at h
  have h2:=jM.1 h.2
  have h3:(af x.item i||af x.item (-1))=true:=by
    cases q:af x.kind 11 with
    |true=>rw[q]at h2;have h4:af x.item i=true:=h2.2;rw[h4];rfl
    |false=>rw[q]at h2;exact(jM.1 h2.2).2
  unfold pc
  rw[kF z,h2.1,h3]
  cases af x.kind 10<;>rfl
theorem Rf{x:PItem}{a i:Int}(h:OL (a,i) x=true):pc x a i=true:=by
  unfold OL at h
  have h:=jM.1 h
  have h1:=fL h.1
  have h2:=uM.1 h.2
  simp only[sx]at h2
  unfold pc
  rw[kF (by omega),←h2.1,←h2.2,bZ,bZ]
  cases af x.kind 10<;>rfl
theorem Em{g:PGaz}{a i:Int}(h:lW g a i=false){b:PAct}(hb:b∈g.acts):b.number≠a∧∀x,x∈b.items→pc x a i=false:=by
  have z:=y7.1 h b hb
  have z:pS b a i=false:=by cases q:pS b a i with
    |false=>rfl
    |true=>exact absurd q z
  unfold pS at z
  obtain⟨z1,z2⟩:=wC.1 z
  refine⟨Da z1,fun x hx=>?_⟩
  cases q:pc x a i with
  |false=>rfl
  |true=>exact absurd q (y7.1 z2 x hx)
section
variable(gs:List PGaz)(g:PGaz)
theorem MI{T:PDeed→Bool}(h1:∀d,bd d.it.kind=true→T d=false)(h2:∀b,b∈g.acts→∀o,o∈b6 b b.items 0→T o=false):(gd (gs++[g])).filter T=(gd gs).filter T:=by
  have am:∀l:List PAct,∀e,e∈ap l []→bd e.2.kind=true:=fun l=>by rw[ta];exact Dl _ [] fun e he=>by cases he
  obtain⟨w1,w2⟩:=ve gs g
  unfold gd bP
  rw[RF (am _) h1,RF (am _) h1]
  unfold gL
  rw[vg,vg,Et (r:=Ft (b7 gs)) fun b hb hw=>y6.2 fun o ho=>by rw[h2 b (w2 b hb hw) o ho];decide,w1]
theorem VH(u:PDeed→Bool)(h2:∀b,b∈g.acts→∀o,o∈b6 b b.items 0→u o=false):(gL (b7 (gs++[g]))).filter u=(gL (b7 gs)).filter u:=by
  obtain⟨w1,w2⟩:=ve gs g
  unfold gL
  rw[vg,vg,Et (r:=Ft (b7 gs)) fun b hb hw=>y6.2 fun o ho=>by rw[h2 b (w2 b hb hw) o ho];decide,w1]
theorem OG{o:PDeed}(h:lW g o.act o.item=false):iz (ap (b7 (gs++[g])) []) o=iz (ap (b7 gs) []) o:=by
  obtain⟨w1,w2⟩:=ve gs g
  have e:iS gH (o.act,o.item) (ap (b7 (gs++[g])) [])=iS gH (o.act,o.item) (ap (b7 gs) []):=by
    rw[ta,ta,rS _ _ [] [] rfl,rS _ ((b7 gs).flatMap _) [] [] rfl,vg,vg,Et (r:=Ft (b7 gs)) fun b hb hw=>y6.2 fun x hx q=>(by
      have z:=(Em h (w2 b hb hw)).2 x hx
      rw[Rf q]at z;cases z),w1]
  unfold iz oy zX
  rw[e]
theorem IW{k:Int}(h:∃c,c∈b7 gs∧c.number=k):aA (jP (b7 (gs++[g])) []) k=aA (jP (b7 gs) []) k:=by
  obtain⟨w1,_⟩:=ve gs g
  obtain⟨c,c1,c2⟩:=h
  unfold aA
  rw[yb k (b7 (gs++[g])) [] [] rfl,yb k (b7 gs) [] [] rfl]
  have e:(b7 gs).filter (fun a=>af k a.number)=(b7 (gs++[g])).filter fun a=>af k a.number:=by
    conv=>lhs;rw[←w1]
    rw[List.filter_filter]
    refine List.filter_congr fun a _=>?_
    cases q:af k a.number with
    |false=>rfl
    | true=>
      rw[wo]
      exact List.any_eq_true.2 ⟨c,c1,by rw[c2];exact q⟩
  rw[e]
theorem SF(day:Int)(p:aR){d:PDeed}(h:lW g d.act d.item=false)(hc:∃c,c∈b7 gs∧c.number=d.act)(hd:∀b,b∈g.acts→∀x,x∈b.items→af x.kind 10=false):s5 day p (jP (b7 (gs++[g])) []) (gd (gs++[g])) d=s5 day p (jP (b7 gs) []) (gd gs) d:=by
  unfold s5
  rw[IW gs g hc]
  have e1 :∀days,iI d (gd (gs++[g])) days=iI d (gd gs) days:=fun days=>by
    rw [nc,nc d (gd gs),MI gs g (fun o ho=>by
      cases q:fq o.it.kind with
      |false=>rfl
      | true=>have:=KR q;have:=Ie ho;omega) fun b hb o ho=>by
        cases q:fq o.it.kind&&g0 o.it d.act d.item with
        |false=>rfl
        | true=>
          have z:=(Em h hb).2 _ (pn b _ _ _ ho)
          rw[Re q]at z;cases z]
  have e2:∀s,jc s (gd (gs++[g]))=jc s (gd gs):=fun s=>Jr s (MI gs g (fun o ho=>by unfold lF;rw[TZ ho (by decide)];rfl) fun b hb o ho=>by unfold lF;rw[hd b hb _ (pn b _ _ _ ho)];rfl)
  unfold ao
  rw[e2,e1]
theorem IJ(day:Int)(p:aR)(h0:∀d,d∈fS day p gs→lW g d.act d.item=false)(h1:∀d,d∈fS day p (gs++[g])→lW g d.act d.item=false):fS day p (gs++[g])=fS day p gs:=by
  by_cases hn:fS day p gs=[]∧fS day p (gs++[g])=[]
  · rw[hn.1,hn.2]
  have hd:∀b,b∈g.acts→∀x,x∈b.items→af x.kind 10=false:=fun b hb x hx=>by
    have hz:∃a i,lW g a i=false:=by
      cases q:fS day p gs with
      |cons d r=>exact⟨_,_,h0 d (by rw[q];exact dI ..)⟩
      | nil=>
        cases q2:fS day p (gs++[g])with
        |cons d r=>exact⟨_,_,h1 d (by rw[q2];exact dI ..)⟩
        |nil=>exact absurd ⟨q,q2⟩ hn
    obtain⟨a,i,hz⟩:=hz
    have z:=(Em hz hb).2 x hx
    unfold pc at z
    exact(wC.1 z).1
  obtain⟨u,hu⟩:∃u:PDeed→Bool,u=fun o=>!(lW g o.act o.item):=⟨_,rfl⟩
  have hk:∀m:ry,∀o,u (iz m o)=u o:=fun m o=>by rw[hu];simp only[(Eu m o).1,(Eu m o).2]
  have e0:=JF (f:=iz (ap (b7 gs) [])) (F:=fun d=>bd d.it.kind&&s5 day p (jP (b7 gs) []) (gd gs) d) (u:=u) (hk _) (l:=gL (b7 gs)) fun d hd=>by rw[hu];simp only[h0 d hd,wA]
  have e1:=JF (f:=iz (ap (b7 (gs++[g])) [])) (F:=fun d=>bd d.it.kind&&s5 day p (jP (b7 (gs++[g])) []) (gd (gs++[g])) d) (u:=u) (hk _) (l:=gL (b7 (gs++[g]))) fun d hd=>by rw[hu];simp only[h1 d hd,wA]
  refine e1.trans (Eq.trans ?_ e0.symm)
  rw[VH gs g u fun b hb o ho=>by
    have z:lW g o.act o.item=true:=List.any_eq_true.2 ⟨b,hb,by unfold pS;rw[rq b _ _ _ ho,bZ];rfl⟩
    rw[hu];simp only[z,Bool.not_true]]
  refine RS fun o ho=>?_
  obtain⟨o1,o2⟩:=Cx.1 ho
  have o2:lW g o.act o.item=false:=by rw[hu]at o2;simpa using o2
  refine⟨OG gs g o2,?_⟩
  obtain⟨c,c1,c2⟩:=List.mem_flatMap.1 o1
  have e3:=Eu (ap (b7 (gs++[g])) []) o
  rw[SF gs g day p (d:=iz (ap (b7 (gs++[g])) []) o) (by rw[e3.1,e3.2];exact o2) ⟨c,c1,by rw[e3.1];exact(rq c _ _ _ c2).symm⟩ hd]
end
theorem SG(gs:List PGaz)(g:PGaz)(p:aR)(day:Int)(h:x8 gs (gs++[g]) p day=true):((fS day p gs).any fun d=>lW g d.act d.item)=true∨((fS day p (gs++[g])).any fun d=>lW g d.act d.item)=true:=by
  cases q0:(fS day p gs).any fun d=>lW g d.act d.item with
  |true=>exact .inl rfl
  | false=>
    cases q1:(fS day p (gs++[g])).any fun d=>lW g d.act d.item with
    |true=>exact .inr rfl
    | false=>
      have f0:∀d,d∈fS day p gs→lW g d.act d.item=false:=fun d hd=>by simpa using y7.1 q0 d hd
      have f1:∀d,d∈fS day p (gs++[g])→lW g d.act d.item=false:=fun d hd=>by simpa using y7.1 q1 d hd
      unfold x8 js at h
      rw[IJ gs g day p f0 f1,(Vv _ _).2 rfl]at h
      cases h
end Go.Proofs.YtaepacpodblomaaGreatDoor
