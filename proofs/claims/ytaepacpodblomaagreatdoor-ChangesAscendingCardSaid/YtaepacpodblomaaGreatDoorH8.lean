/- Functions walked: what each of them answers, for Every change day is a breakpoint, both lists rise, and Next enumerates the change days: part 8. Conditions: those that each theorem names. -/
import Derived.Test.YtaepacpodblomaaGreatDoorH7
namespace Go.Proofs.YtaepacpodblomaaGreatDoor
open Go Go.Ev
noncomputable def HD(s:PSpan):List Int:=match ap s.to 1048577 with|true=>[s.from_,s.to]|false=>[s.from_]
noncomputable def cY:List PSpan→List Int
  |[]=>[]
  |s::r=>HD s++cY r
theorem AA{s:PSpan}(h:ap s.to 1048577=true):HD s=[s.from_,s.to]:=by simp only[HD,h]
theorem AB{s:PSpan}(h:ap s.to 1048577=false):HD s=[s.from_]:=by simp only[HD,h]
theorem RR(s:PSpan):(HD s).length≤2:=by unfold HD;cases ap s.to 1048577<;>simp
theorem C7:∀(l:List PSpan),(cY l).length≤2*l.length
  |[]=>au _
  | s::r=>by
    have:=C7 r;have:=RR s
    simp only[cY,lA,lC];omega
theorem Bf(l:List PSpan)(hl:l.length<2^30):kP 52 [.ls (l.map aJ)] (.ls ((cY (gT l)).map aj)):=by
  have hn:=gG l hl
  have hq:=(ku l).len
  generalize gT l=N at *
  have rr0 b' (h:((cY N).map aj)=b':=by first|rfl|exact aX Jc _|(rw[hj0];rfl)|(rw[hj0.2.2];simp[cY])):=h;exact bH Tryz.func52<|Kp 2 hn<|Kl 0 8 (ln aJ N)<|Mg 0<|kh Nat Nat (List Int) aJ N [3,7,8,9] (fun a _=>([af,aW<|N.map aJ,nV N.length,nV a],[])) (fun a _ b c d=>([aM 0 b 0 c none,aW<|N.map aJ,nV N.length,nV a],[aZ 1 true b<|d.map aj])) (fun a=>cY N=cY a) (fun a _ b c=>b=c.length∧c.length+2*a.length≤2^21+10∧cY N=c++cY a) (by rfl) (fun _ _ _ _ _ a hj0=>Kh 0 a<|Kf 1 (Le.lsn<|rr0 []:Le _ (af))) (fun a _ b _ c d _ e f g _ i hj0=>Kt 0 g<|Mx i<|Ka 11 c.to 1048577 (fun _ _=>Kl 6 26 (dV a)<|Mg 0<|M0 (.ren [1,0] [] [3,7,8,9])<|M1 (.frz 1 [3,7,8,9]) (et rt ti)<|Mf<|e 1 2 [c.from_,c.to]<|by exact⟨rfl,by(have:=fS b f;simp only[lC,lN]<;>(omega)),by rw[hj0,cY];first|rw[AA (by assumption)]|rw[AB (by assumption)]⟩) fun _ _=>Kl 0 26 (dV a)<|Mg 0<|M0 (.ren [1,0] [] [3,7,8,9])<|M1 (.frz 1 [3,7,8,9]) (et rt ti)<|Mf<|e 0 1 [c.from_]<|by exact⟨rfl,by(have:=fS b f;simp only[lC,lN]<;>(omega)),by rw[hj0,cY];first|rw[AA (by assumption)]|rw[AB (by assumption)]⟩) (fun _ _ a b c _ _ _ d hj0=>Kh 0 d<|Mg 1<|M2 (.fsl 0 [] 2<|c.map aj) ti (ce (aU a) (tA aj c b (by(omega):(c).length=b))<|aX Jc c)<|Ml 2 (fg (c.map aj) false<|aX Jc c)<|Mf<|cW<|rr0<|c.map aj) fun a _ b c d _ _ e f _ g _ i _ j hj0=>Kt 0 i<|Mx j<|K1 6 .app (ce (aU b) (by(rw[lM];exact hj0.1):c=(d.map aj).length) (by(have z:=hj0.2.1;refine dY (m:=2^22) ?_ ?_ ?_<;>first|(omega)|(simp only[lA,lC,lN]<;>(first|omega|(simp only[oN]at *;omega)))):small (c+1) 8=true))<|M1 (.obj 0<|aZ 1 true (b+1)<|(d++[e.from_]).map aj) (congrArg (aZ 1 true<|b+1)<|dQ (f:=aj) (l:=d) (ws:=[e.from_]))<|Ka 3 e.to 1048577 (fun _ _=>K1 3 .app (ce (aU<|b+1) (by(simp only[lM,lA,lC,lN]<;>(omega)):c+1=((d++[e.from_]).map aj).length) (by(have z:=hj0.2.1;refine dY (m:=2^22) ?_ ?_ ?_<;>first|(omega)|(simp only[lA,lC,lN]<;>(first|omega|(simp only[oN]at *;omega)))):small (c+1+1) 8=true))<|M1 (.obj 0<|aZ 1 true (b+1+1)<|(d++[e.from_]++[e.to]).map aj) (congrArg (aZ 1 true<|b+1+1)<|dQ (f:=aj) (l:=d++[e.from_]) (ws:=[e.to]))<|Kl 1 26 (dV a)<|K1 0 (.frz 1 [3,7,8,9]) (et (tR 1 true (b+1+1) 1<|aX Jc<|d++[e.from_]++[e.to]) ti)<|Mf<|g (b+1+1) (c+1+1) (d++[e.from_]++[e.to])<|by exact⟨by(simp only[lA,lC,lN]<;>(omega)),by(have z:=hj0.2.1;simp only[lA,lC,lN]at * <;>(omega)),by rw[hj0.2.2,cY];first|(rw[AA (by assumption)];simp)|(rw[AB (by assumption)];simp)⟩) fun _ _=>Kl 0 26 (dV a)<|K1 0 (.frz 1 [3,7,8,9]) (et (tR 1 true (b+1) 1<|aX Jc<|d++[e.from_]) ti)<|Mf<|g (b+1) (c+1) (d++[e.from_])<|by exact⟨by(simp only[lA,lC,lN]<;>(omega)),by(have z:=hj0.2.1;simp only[lA,lC,lN]at * <;>(omega)),by rw[hj0.2.2,cY];first|(rw[AA (by assumption)];simp)|(rw[AB (by assumption)];simp)⟩
noncomputable abbrev nJ:AObj:=.row 1 false 0 [.ps [iV 0] true]
noncomputable abbrev j9(i ep n:Nat):AObj:=.row 1 false 0 [.slice i ep 0 n none]
theorem P9{α:Type}{f:α→AV}{l:List α}(h:0<l.length):l.map f≠[]:=by
  intro e;have:=congrArg List.length e;simp at this;subst this;simp at h
theorem Vu(d:PDeed)(ss:List PSpan)(B:List Int)(m:List (Int×PStart))(hB:kP 52 [.ls (ss.map aJ)] (.ls (B.map aj)))(hb:B.length=0):
    kD 51 [aY d,.ls (ss.map aJ),.ptr 0 0 0 0] (av [nJ,bh m,de d]) (.tuple []) (av [nJ,bh m,de d]):=by
  let q:=[ab [iV d.act,iV d.item,iV d.day,iV d.it.kind,aW (d.it.at_.map az),aW (d.it.to.map az),iV d.it.where_,iV d.it.nth_,iV d.it.unit.act,iV d.it.unit.item,iV d.it.unit.n,iV d.it.unit.kind,ax d.it.unit.label,aW (d.it.unit.head.map aQ),aW (d.it.unit.words.map aQ),aW (d.it.unit.kids.map aK),aW (d.it.old.map mN),aW (d.it.new.map mN),ax d.it.label,ax d.it.for_,iV d.it.start.kind,iV d.it.start.day,ax d.it.start.event,iV d.it.act,iV d.it.item,iV d.it.day,ax d.it.event,aW (d.it.by_.map NG)]];let q1:=AHeap.mk 4 (bB (av [aZ 1 false 0 [jq [iV 0] true],AObj.map (aH aw m 0) m.length,aZ 28 false 0 q,aZ 28 false 0 q]) ([]) Tr.nil);let q2:=[iV 0];exact eV Tryz.func51 fun a=>Kp 2 hB<|Mw (.opv (jq q2 true) q1<|.go 0<|.frz 3 [] .fin)<|wR rt rt (N7 (f:=aj) (l:=B) (sz:=1) (b:=8) (xs:=q2) (t:=true) (h:=q1) (by(omega):(B).length=0)) (jQ rt (tM m.length 3<|aa (f:=aw) (fun _=>rfl) m 0) rt ti) a
theorem Yu(d:PDeed)(ss:List PSpan)(B:List Int)(m:List (Int×PStart))(hB:kP 52 [.ls (ss.map aJ)] (.ls (B.map aj)))(hb:0<B.length)(hb2:B.length<2^30):
    kD 51 [aY d,.ls (ss.map aJ),.ptr 0 0 0 0] (av [nJ,bh m,de d]) (.tuple []) (av [j9 3 0 (([0]++B).map aj).length,bh m,de d,lD 0 ([0]++B)]):=by
  let q:=List.map aj ([0]++B);exact eV Tryz.func51 fun a=>Kp 2 hB<|M4 (.apx q) rt rt (et (by exact P9 hb:List.map aj B≠[])<|fM 1 aj B fun _=>rfl) (et (et (aU q) (by(refine dY (m:=2^32) ?_ ?_ ?_<;>first|(omega)|(simp only[lA,lM,lC,lN]<;>(omega))):small (([iV 0]).length+(B.map aj).length) 8=true)) rt)<|Mg 0<|M2 (.ren [0,1,2,4,3] [1,4] []) (tN m.length<|aa (f:=aw) (fun _=>rfl) m 0) (tS 1 true 0<|aX Jc<|[0]++B)<|M1 (.frz 4 []) (wR (tR 1 true 0 4<|aX Jc<|[0]++B) rt (tM m.length 4<|aa (f:=aw) (fun _=>rfl) m 0) rt ti)<|Mf a
theorem Yt(d:PDeed)(ss:List PSpan)(B:List Int)(m:List (Int×PStart))(ep n:Nat)(out:List Int)(hB:kP 52 [.ls (ss.map aJ)] (.ls (B.map aj)))(hb:B.length=0):
    kD 51 [aY d,.ls (ss.map aJ),.ptr 0 0 0 0] (av [j9 2 ep n,bh m,lD ep out,de d]) (.tuple []) (av [j9 2 ep n,bh m,lD ep out,de d]):=by
  let q:=[ab [iV d.act,iV d.item,iV d.day,iV d.it.kind,aW (d.it.at_.map az),aW (d.it.to.map az),iV d.it.where_,iV d.it.nth_,iV d.it.unit.act,iV d.it.unit.item,iV d.it.unit.n,iV d.it.unit.kind,ax d.it.unit.label,aW (d.it.unit.head.map aQ),aW (d.it.unit.words.map aQ),aW (d.it.unit.kids.map aK),aW (d.it.old.map mN),aW (d.it.new.map mN),ax d.it.label,ax d.it.for_,iV d.it.start.kind,iV d.it.start.day,ax d.it.start.event,iV d.it.act,iV d.it.item,iV d.it.day,ax d.it.event,aW (d.it.by_.map NG)]];let q1:=AHeap.mk 5 (bB (av [aZ 1 false 0 [aM 2 ep 0 n none],AObj.map (aH aw m 0) m.length,aZ 1 true ep (out.map aj),aZ 28 false 0 q,aZ 28 false 0 q]) ([2]) Tr.nil);exact eV Tryz.func51 fun a=>Kp 2 hB<|Mw (.opv (aM 2 ep 0 n none) q1<|.go 0<|.frz 4 [] .fin)<|wR rt (gS (tR 1 true ep 5<|aX Jc out) rt) (R4 (f:=aj) (l:=B) (sz:=1) (b:=8) (id:=2) (ep:=ep) (off:=0) (len:=n) (cap:=none) (h:=q1) (by(omega):(B).length=0)) (wR rt (tR 1 true ep 4<|aX Jc out) (tM m.length 4<|aa (f:=aw) (fun _=>rfl) m 0) rt ti) a
theorem Ys(d:PDeed)(ss:List PSpan)(B:List Int)(m:List (Int×PStart))(ep n:Nat)(out:List Int)(hB:kP 52 [.ls (ss.map aJ)] (.ls (B.map aj)))(hb:0<B.length)(hn:n=out.length)(hn2:n+B.length<2^37):
    kD 51 [aY d,.ls (ss.map aJ),.ptr 0 0 0 0] (av [j9 2 ep n,bh m,lD ep out,de d]) (.tuple []) (av [j9 2 (ep+1) (n+(B.map aj).length),bh m,lD (ep+1) (out++B),de d]):=by
  exact eV Tryz.func51 fun a=>Kp 2 hB<|M4 (.apx<|(out++B).map aj) rt (gS (tR 1 true ep 5<|aX Jc out) rt) (et (by exact P9 hb:List.map aj B≠[])<|fM 1 aj B fun _=>rfl) (et (ce (aU ep) (by(rw[lM];exact hn):n=(out.map aj).length) (by(refine dY (m:=2^37) ?_ ?_ ?_<;>first|(omega)|(simp only[lA,lM,lC,lN]<;>(omega))):small (n+(B.map aj).length) 8=true))<|dQ (f:=aj) (l:=out) (ws:=B))<|K1 0 (.frz 4 []) (wR rt (tR 1 true (ep+1) 4<|aX Jc<|out++B) (tM m.length 4<|aa (f:=aw) (fun _=>rfl) m 0) rt ti)<|Mf a
noncomputable def Be(m:List (Int×PStart))(ds:List PDeed)(d:PDeed):List Int:=match ca d.it.kind with|true=>cY (ao (aB m d.act) d ds)|false=>[]
noncomputable def iO(m:List (Int×PStart))(ds:List PDeed):List PDeed→List Int
  |[]=>[]
  |d::r=>Be m ds d++iO m ds r
theorem Au(s:PStart)(d:PDeed)(l:List PDeed):kP 52 [.ls ((ao s d l).map aJ)] (.ls ((cY (ao s d l)).map aj)):=by
  have hn:=jG s d l
  have h:=Bf (ao s d l) (m9 hn.len (by decide))
  have e:gT (ao s d l)=ao s d l:=(KP hn).symm
  rwa[e]at h
theorem sR{m:List (Int×PStart)}{ds r:List PDeed}{d:PDeed}(h:ca d.it.kind=true):iO m ds (d::r)=cY (ao (aB m d.act) d ds)++iO m ds r:=by simp only[iO,Be,h]
theorem Jp{m:List (Int×PStart)}{ds r:List PDeed}{d:PDeed}(h:ca d.it.kind=false):iO m ds (d::r)=iO m ds r:=by simp only[iO,Be,h,wX]
theorem qD(s:PStart)(d:PDeed)(l:List PDeed):(cY (ao s d l)).length≤2^22:=by
  have h:=C7 (ao s d l);have:=(jG s d l).len;omega
theorem Qa{B:List Int}(h:B.isEmpty=true):B.length=0:=by rw[List.isEmpty_iff.1 h];rfl
theorem Ve{B:List Int}(h:B.isEmpty=false):0<B.length:=by
  cases B with
  |nil=>cases h
  |cons a r=>exact vS _
theorem Hp{B X:List Int}(h:B.isEmpty=true):B++X=X:=by rw[List.isEmpty_iff.1 h];rfl
theorem Xa(s:PStart)(d:PDeed)(l:List PDeed)(m:List (Int×PStart))(hb:By (cY (ao s d l)).isEmpty true):kD 51 [aY d,.ls ((ao s d l).map aJ),.ptr 0 0 0 0] (av [nJ,bh m,de d]) (.tuple []) (av [nJ,bh m,de d]):=Vu d _ _ m (Au s d l) (Qa hb)
theorem Xb(s:PStart)(d:PDeed)(l:List PDeed)(m:List (Int×PStart))(hb:(cY (ao s d l)).isEmpty=true):kD 51 [aY d,.ls ((ao s d l).map aJ),.ptr 0 0 0 0] (av [nJ,bh m,de d]) (.tuple []) (av [nJ,bh m,de d]):=Vu d _ _ m (Au s d l) (Qa hb)
theorem Xy(s:PStart)(d:PDeed)(l:List PDeed)(m:List (Int×PStart))(hb:By (cY (ao s d l)).isEmpty false):kD 51 [aY d,.ls ((ao s d l).map aJ),.ptr 0 0 0 0] (av [nJ,bh m,de d]) (.tuple []) (av [j9 3 0 (([0]++cY (ao s d l)).map aj).length,bh m,de d,lD 0 ([0]++cY (ao s d l))]):=Yu d _ _ m (Au s d l) (Ve hb) (m9 (qD s d l) (by decide))
theorem Xv(s:PStart)(d:PDeed)(l:List PDeed)(m:List (Int×PStart))(ep n:Nat)(out:List Int)(hb:By (cY (ao s d l)).isEmpty true):kD 51 [aY d,.ls ((ao s d l).map aJ),.ptr 0 0 0 0] (av [j9 2 ep n,bh m,lD ep out,de d]) (.tuple []) (av [j9 2 ep n,bh m,lD ep out,de d]):=Yt d _ _ m ep n out (Au s d l) (Qa hb)
theorem Xw(s:PStart)(d:PDeed)(l:List PDeed)(m:List (Int×PStart))(ep n:Nat)(out:List Int)(hb:By (cY (ao s d l)).isEmpty false)(hn:n=out.length)(hn2:n<2^36):kD 51 [aY d,.ls ((ao s d l).map aJ),.ptr 0 0 0 0] (av [j9 2 ep n,bh m,lD ep out,de d]) (.tuple []) (av [j9 2 (ep+1) (n+((cY (ao s d l)).map aj).length),bh m,lD (ep+1) (out++cY (ao s d l)),de d]):=Ys d _ _ m ep n out (Au s d l) (Ve hb) hn (by have:=qD s d l;omega)
noncomputable def bE(m:List (Int×PStart))(ds:List PDeed)(d:PDeed):Nat:=match(Be m ds d).isEmpty with|true=>0|false=>1
noncomputable def pp(m:List (Int×PStart))(ds:List PDeed):List PDeed→Nat
  |[]=>0
  |d::r=>bE m ds d+pp m ds r
theorem YC{m:List (Int×PStart)}{ds:List PDeed}{d:PDeed}(h:ca d.it.kind=false):bE m ds d=0:=by simp only[bE,Be,h];rfl
theorem YB{m:List (Int×PStart)}{ds:List PDeed}{d:PDeed}(h:ca d.it.kind=true)(h2:(cY (ao (aB m d.act) d ds)).isEmpty=true):bE m ds d=0:=by simp only[bE,Be,h,h2]
theorem YD{m:List (Int×PStart)}{ds:List PDeed}{d:PDeed}(h:ca d.it.kind=true)(h2:(cY (ao (aB m d.act) d ds)).isEmpty=false):bE m ds d=1:=by simp only[bE,Be,h,h2]
/-- What the rounds are to tell: 'A' nothing yet, 'B' something. -/
structure BrkA(m:List (Int×PStart))(ds r:List PDeed):Prop where
  f:iO m ds ds=iO m ds r
  e:pp m ds ds=pp m ds r
structure BrkB(m:List (Int×PStart))(ds r:List PDeed)(ep n:Nat)(out:List Int):Prop where
  len:n=out.length
  small:out.length+2^22*r.length≤2^22*ds.length+1
  f:[0]++iO m ds ds=out++iO m ds r
  e:pp m ds ds=ep+1+pp m ds r
theorem BrkA.no{m:List (Int×PStart)}{ds r:List PDeed}{d:PDeed}(h:BrkA m ds (d::r))(ha:ca d.it.kind=false):BrkA m ds r:=⟨by rw[h.f,Jp ha],by rw[h.e];simp only[pp,YC ha,fw]⟩
theorem BrkA.nil{m:List (Int×PStart)}{ds r:List PDeed}{d:PDeed}(h:BrkA m ds (d::r))(ha:ca d.it.kind=true)(hb:(cY (ao (aB m d.act) d ds)).isEmpty=true):BrkA m ds r:=⟨by rw[h.f,sR ha,Hp hb],by rw[h.e];simp only[pp,YB ha hb,fw]⟩
theorem BrkA.new{m:List (Int×PStart)}{ds r:List PDeed}{d:PDeed}{n:Nat}(h:BrkA m ds (d::r))(hl:(d::r).length≤ds.length)(ha:ca d.it.kind=true)(hb:(cY (ao (aB m d.act) d ds)).isEmpty=false)(hn:n=(([0]++cY (ao (aB m d.act) d ds)).map aj).length):BrkB m ds r 0 n ([0]++cY (ao (aB m d.act) d ds)):=by
  have:=qD (aB m d.act) d ds
  refine⟨by rw[hn,lM],by(rw[lA];simp only[lC,lN]at *;omega),by rw[h.f,sR ha,nH],by rw[h.e];show bE m ds d+pp m ds r=_;rw[YD ha hb]⟩
theorem BrkB.no{m:List (Int×PStart)}{ds r:List PDeed}{d:PDeed}{ep n:Nat}{out:List Int}(h:BrkB m ds (d::r) ep n out)(ha:ca d.it.kind=false):BrkB m ds r ep n out:=⟨h.len,by have:=h.small;simp only[lC]at this;omega,by rw[h.f,Jp ha],by rw[h.e];simp only[pp,YC ha,fw]⟩
theorem BrkB.nil{m:List (Int×PStart)}{ds r:List PDeed}{d:PDeed}{ep n:Nat}{out:List Int}(h:BrkB m ds (d::r) ep n out)(ha:ca d.it.kind=true)(hb:(cY (ao (aB m d.act) d ds)).isEmpty=true):BrkB m ds r ep n out:=⟨h.len,by have:=h.small;simp only[lC]at this;omega,by rw[h.f,sR ha,Hp hb],by rw[h.e];simp only[pp,YB ha hb,fw]⟩
theorem BrkB.new{m:List (Int×PStart)}{ds r:List PDeed}{d:PDeed}{ep n k:Nat}{out:List Int}(h:BrkB m ds (d::r) ep n out)(ha:ca d.it.kind=true)(hb:(cY (ao (aB m d.act) d ds)).isEmpty=false)(hk:k=n+((cY (ao (aB m d.act) d ds)).map aj).length):BrkB m ds r (ep+1) k (out++cY (ao (aB m d.act) d ds)):=by
  have:=qD (aB m d.act) d ds
  refine⟨by rw[hk,h.len,lM,lA],by(have:=h.small;simp only[lA,lC]at *;omega),by rw[h.f,sR ha,nH],by rw[h.e];simp only[pp,YD ha hb];omega⟩
theorem BrkB.done{m:List (Int×PStart)}{ds:List PDeed}{ep n:Nat}{out:List Int}(h:BrkB m ds [] ep n out):ep=pp m ds ds-1∧n=([0]++iO m ds ds).length∧out=[0]++iO m ds ds:=by
  have e1:=h.f
  simp only[iO,ec]at e1
  have e2:=h.e
  simp only[pp]at e2
  exact⟨by omega,by rw[e1];exact h.len,e1.symm⟩
theorem NR(gs:List PGaz)(L:List PAct)(ds:List PDeed)(hL:L.length<10000)(hd:ds.length<10000)(ha:kP 67 [.ls (gs.map al)] (.ls (L.map ay)))(hi:kP 68 [.ls (gs.map al)] (.ls (ds.map aY)))(hE:iO (kM L []) ds ds=[]):
    kD 47 [.ls (gs.map al),.func (.func 51) [] [.ptr 0 0 0 0]] (av [nJ]) (.tuple []) (av [nJ]):=by
  have hlk:=oR
  have hup:=qN
  have hno:∀{m:List (Int×PStart)}{r:List PDeed}{d:PDeed},iO m ds (d::r)=[]→ca d.it.kind=true→(cY (ao (aB m d.act) d ds)).isEmpty=true:=fun h h2=>by
    rw[sR h2]at h;rw[(List.append_eq_nil_iff.1 h).1];rfl
  let q1:=[jq [iV 0] true];exact eV Tryz.func47 fun a=>Kp 2 ha<|Kl 0 13 (ln ay L)<|Mg 0<|H0 ay L ([]:List (Int×PStart)) [0,1,4,12,13,14] (fun a _ b=>([aW<|gs.map al,bU (bY 51) [] [bz 0 0 0 0],AV.map 1,aW<|L.map ay,nV L.length,nV a],[aZ 1 false 0 [jq [iV 0] true],AObj.map (aH aw b 0) b.length])) (fun a b=>kM L []=kM a b) (by rfl) (fun _ _ b _ _ _ c e=>Kh 0 c<|Kp 0 hi<|Kl 2 27 (ln aY ds)<|Mg 0<|U9 (0:Nat) ds () [1,4,7,26,27,28] (fun a _ _=>([bU (bY 51) [] [bz 0 0 0 0],AV.map 1,aW<|ds.map aY,aW<|ds.map aY,nV ds.length,nV a],[aZ 1 false 0 [jq [iV 0] true],AObj.map (aH aw b 0) b.length])) (fun a c _=>(ds).drop a=c∧iO b ds c=[]) (fun _ a _=>a.length) (et rfl<|by(rw[←show kM L []=b from e];exact hE)) fun c e f g i=>Mc e (fun c=>have e:=eP g.1 c;have:=gw (J:=fun a _=>iO b ds a=[]) (a:=f) c g.2;Kh 0 e<|M1 (.frz 1 []) (et rt ti)<|Mf a) fun a e j=>let k:=[ab [iV a.act,iV a.item,iV a.day,iV a.it.kind,aW<|a.it.at_.map az,aW<|a.it.to.map az,iV a.it.where_,iV a.it.nth_,iV a.it.unit.act,iV a.it.unit.item,iV a.it.unit.n,iV a.it.unit.kind,ax a.it.unit.label,aW<|a.it.unit.head.map aQ,aW<|a.it.unit.words.map aQ,aW<|a.it.unit.kids.map aK,aW<|a.it.old.map mN,aW<|a.it.new.map mN,ax a.it.label,ax a.it.for_,iV a.it.start.kind,iV a.it.start.day,ax a.it.start.event,iV a.it.act,iV a.it.item,iV a.it.day,ax a.it.event,aW<|a.it.by_.map NG]];have l:=fY g.1 j;have:=am l;have n:=eO (enc:=aY) g.1 j;have f:=cq (J:=fun a _=>iO b ds a=[]) (a:=f) j g.2;Kt 0 l<|Mx n<|Kp 5 (jv a.it.kind)<|Mb (ca a.it.kind) (fun _=>K1 4 (.look<|ab [iV (aB b a.act).kind,iV (aB b a.act).day,ax (aB b a.act).event]) (hlk b a.act)<|Kp 1 (gJ (aB b a.act) a ds<|by(omega))<|M3 (.efx true (bO [])<|av [aZ 1 false 0 q1,AObj.map (aH aw b 0) b.length,aZ 28 false 0 k]) (jQ rt (tM b.length 3<|aa (f:=aw) (fun _=>rfl) b 0) rt ti) (jQ (aU<|some<|aZ 28 false 0 k) (aU<|some<|AObj.map (aH aw b 0) b.length) (aU<|some<|aZ 1 false 0 q1) ti) (Xb (aB b a.act) a ds b<|by exact hno f (by assumption))<|Kl 0 46 (dV c)<|K1 0 (.frz 2 [1,4,7,26,27,28]) (ce (tM b.length 2<|aa (f:=aw) (fun _=>rfl) b 0) rt ti)<|Mf<|i (c+1) e () (et (bK g.1 j)<|by(have z:=f;rw[sR (by assumption)]at z;exact(List.append_eq_nil_iff.1 z).2))<|dn j) fun _=>Kl 0 46 (dV c)<|K1 0 (.frz 2 [1,4,7,26,27,28]) (ce (tM b.length 2<|aa (f:=aw) (fun _=>rfl) b 0) rt ti)<|Mf<|i (c+1) e () (et (bK g.1 j)<|by(have z:=f;rw[Jp (by assumption)]at z;exact z))<|dn j) fun a _ b _ _ c e f _ g _ i j=>Kt 0 g<|Mx i<|K1 7 (.upd (aH aw (cT c.number c.start b) 0) (cT c.number c.start b).length) (hup b c)<|Kl 0 23 (dV a)<|K1 0 (.frz 2 [0,1,4,12,13,14]) (ce (tM (cT c.number c.start b).length 2<|aa (f:=aw) (fun _=>rfl) (cT c.number c.start b) 0) rt ti)<|Mf<|f (cT c.number c.start b)<|by exact j
def Ap(gs:List PGaz)(L:List PAct)(x0:Nat×List PAct×List (Int×PStart)):Prop:=(L).drop x0.1=x0.2.1∧kM L []=kM x0.2.1 x0.2.2
noncomputable def qC(gs:List PGaz)(L:List PAct)(x0:Nat×List PAct×List (Int×PStart)):List AV×List AObj:=([AV.ls (gs.map al),AV.func (Fn.func 51) [] [AV.ptr 0 0 0 0],AV.map 1,AV.ls (L.map ay),nV L.length,nV x0.1],[AObj.row 1 false 0 [AV.ps [iV 0] true],AObj.map (aH aw x0.2.2 0) x0.2.2.length])
def Ao(ds:List PDeed)(x0:Nat×List PAct×List (Int×PStart))(x1:Nat×List PDeed×Unit):Prop:=(ds).drop x1.1=x1.2.1∧BrkA x0.2.2 ds x1.2.1
noncomputable def qB(ds:List PDeed)(x0:Nat×List PAct×List (Int×PStart))(x1:Nat×List PDeed×Unit):List AV×List AObj:=([AV.func (Fn.func 51) [] [AV.ptr 0 0 0 0],AV.map 1,AV.ls (ds.map aY),AV.ls (ds.map aY),nV ds.length,nV x1.1],[AObj.row 1 false 0 [AV.ps [iV 0] true],AObj.map (aH aw x0.2.2 0) x0.2.2.length])
def An(ds:List PDeed)(x0:Nat×List PAct×List (Int×PStart))(x1:Nat×List PDeed×Nat×Nat×List Int):Prop:=(ds).drop x1.1=x1.2.1∧BrkB x0.2.2 ds x1.2.1 x1.2.2.1 x1.2.2.2.1 x1.2.2.2.2
noncomputable def Am(ds:List PDeed)(x0:Nat×List PAct×List (Int×PStart))(x1:Nat×List PDeed×Nat×Nat×List Int):List AV×List AObj:=([AV.func (Fn.func 51) [] [AV.ptr 0 0 0 0],AV.map 1,AV.ls (ds.map aY),AV.ls (ds.map aY),nV ds.length,nV x1.1],[AObj.row 1 false 0 [AV.slice 2 x1.2.2.1 0 x1.2.2.2.1 none],AObj.map (aH aw x0.2.2 0) x0.2.2.length,AObj.row 1 true x1.2.2.1 (x1.2.2.2.2.map aj)])
theorem NP(gs:List PGaz)(L:List PAct)(ds:List PDeed)(hL:L.length<10000)(hd:ds.length<10000)(ha:kP 67 [.ls (gs.map al)] (.ls (L.map ay)))(hi:kP 68 [.ls (gs.map al)] (.ls (ds.map aY)))(hE:iO (kM L []) ds ds≠[]):
    kD 47 [.ls (gs.map al),.func (.func 51) [] [.ptr 0 0 0 0]] (av [nJ]) (.tuple []) (av [j9 1 (pp (kM L []) ds ds-1) ([0]++iO (kM L []) ds ds).length,lD (pp (kM L []) ds ds-1) ([0]++iO (kM L []) ds ds)]):=by
  have hlk:=oR
  have hup:=qN
  let q9:=bO [];let q11:=[jq [iV 0] true];exact Oj Tryz.func47<|Kp 2 ha<|Kl 0 13 (ln ay L)<|Mg 0<|ML (Nat×List PAct×List (Int×PStart)) [0,1,4,12,13,14] (qC gs L) (Ap gs L) (fun a=>a.2.1.length) (0,L,[]) (aU<|qC gs L (0,L,[])) (et (rfl:List.drop 0 (L)=L) (by rfl:(kM L []=kM L []))) fun a b c=>let d:=some<|AObj.map (aH aw a.2.2 0) a.2.2.length;Mi (fun a b=>kM L []=kM a b) ay b (fun _ b c=>Kh 0 b<|Kp 0 hi<|Kl 2 27 (ln aY ds)<|Mg 0<|MM (Nat×List PDeed×Unit) (Nat×List PDeed×Nat×Nat×List Int) [1,4,7,26,27,28] (qB ds a) (Am ds a) (Ao ds a) (An ds a) (fun a=>a.2.1.length) (fun a=>a.2.1.length) (.inl (0,ds,())) (aU<|qB ds a (0,ds,())) (et (rfl:List.drop 0 (ds)=ds) (by(exact⟨rfl,rfl⟩):(BrkA a.2.2 ds ds))) (fun b e f=>Mc b.2.1 (fun d=>have f:=eP e.1 d;have b:=gw (J:=fun b _=>BrkA a.2.2 ds b) (a:=b.2.2) d e.2;Kh 0 f<|Mw .abs (by exact hE (by rw[show kM L []=a.2.2 from c];exact b.f):False)) fun c g h=>let i:=[ab [iV c.act,iV c.item,iV c.day,iV c.it.kind,aW<|c.it.at_.map az,aW<|c.it.to.map az,iV c.it.where_,iV c.it.nth_,iV c.it.unit.act,iV c.it.unit.item,iV c.it.unit.n,iV c.it.unit.kind,ax c.it.unit.label,aW<|c.it.unit.head.map aQ,aW<|c.it.unit.words.map aQ,aW<|c.it.unit.kids.map aK,aW<|c.it.old.map mN,aW<|c.it.new.map mN,ax c.it.label,ax c.it.for_,iV c.it.start.kind,iV c.it.start.day,ax c.it.start.event,iV c.it.act,iV c.it.item,iV c.it.day,ax c.it.event,aW<|c.it.by_.map NG]];let j:=ab [iV (aB a.2.2 c.act).kind,iV (aB a.2.2 c.act).day,ax (aB a.2.2 c.act).event];let k:=List.map aj<|[0]++cY (ao (aB a.2.2 c.act) c ds);have l:=fY e.1 h;have:=am l;have m:=eO (enc:=aY) e.1 h;have n:=cq (J:=fun b _=>BrkA a.2.2 ds b) (a:=b.2.2) h e.2;Kt 0 l<|Mx m<|Kp 5 (jv c.it.kind)<|Mb (ca c.it.kind) (fun _=>Ms (cY<|ao (aB a.2.2 c.act) c ds).isEmpty (fun k=>K1 4 (.look j) (hlk a.2.2 c.act)<|Kp 1 (gJ (aB a.2.2 c.act) c ds<|by(omega))<|M3 (.efx true q9<|av [aZ 1 false 0 q11,AObj.map (aH aw a.2.2 0) a.2.2.length,aZ 28 false 0 i]) (jQ rt (tM a.2.2.length 3<|aa (f:=aw) (fun _=>rfl) a.2.2 0) rt ti) (jQ (aU<|some<|aZ 28 false 0 i) (aU d) (aU<|some<|aZ 1 false 0 q11) ti) (Xa (aB a.2.2 c.act) c ds a.2.2 k)<|Kl 0 46 (dV b.1)<|K1 0 (.frz 2 [1,4,7,26,27,28]) (ce (tM a.2.2.length 2<|aa (f:=aw) (fun _=>rfl) a.2.2 0) rt ti)<|Mf<|f (.inl (b.1+1,g,())) (et (bK e.1 h) (by exact n.nil (by assumption) (by assumption):(BrkA a.2.2 ds g)))<|dn h) fun d=>K1 4 (.look j) (hlk a.2.2 c.act)<|Kp 1 (gJ (aB a.2.2 c.act) c ds<|by(omega))<|M3 (.efx false q9<|av [aZ 1 false 0 [aM 3 0 0 k.length none],AObj.map (aH aw a.2.2 0) a.2.2.length,aZ 28 false 0 i,aZ 1 true 0 k]) (jQ rt (tM a.2.2.length 3<|aa (f:=aw) (fun _=>rfl) a.2.2 0) rt ti) ti (Xy (aB a.2.2 c.act) c ds a.2.2 d)<|Kl 0 46 (dV b.1)<|Mg 0<|M2 (.ren [0,1,3,2] [1,3] [1,4,7,26,27,28]) (tN a.2.2.length<|aa (f:=aw) (fun _=>rfl) a.2.2 0) (tS 1 true 0<|aX Jc<|[0]++cY (ao (aB a.2.2 c.act) c ds))<|M1 (.frz 3 [1,4,7,26,27,28]) (jQ (tR 1 true 0 3<|aX Jc<|[0]++cY (ao (aB a.2.2 c.act) c ds)) (tM a.2.2.length 3<|aa (f:=aw) (fun _=>rfl) a.2.2 0) rt ti)<|Mf<|f (.inr (b.1+1,g,(0,k.length,[0]++cY (ao (aB a.2.2 c.act) c ds)))) (et (bK e.1 h) (by exact n.new (Ic (e.1.trans h)) (by assumption) (by assumption) rfl:(BrkB a.2.2 ds g (0:Nat) (([(0:Int)]++cY (ao (aB a.2.2 c.act) c ds)).map aj).length ([(0:Int)]++cY (ao (aB a.2.2 c.act) c ds)))))<|dn h) fun _=>Kl 0 46 (dV b.1)<|K1 0 (.frz 2 [1,4,7,26,27,28]) (ce (tM a.2.2.length 2<|aa (f:=aw) (fun _=>rfl) a.2.2 0) rt ti)<|Mf<|f (.inl (b.1+1,g,())) (et (bK e.1 h) (by exact n.no (by assumption):(BrkA a.2.2 ds g)))<|dn h) fun b e f=>let g:=[aM 2 b.2.2.1 0 b.2.2.2.1 none];let h:=List.map aj b.2.2.2.2;Mc b.2.1 (fun d=>have f:=eP e.1 d;have d:=gw (J:=fun b c=>BrkB a.2.2 ds b c.1 c.2.1 c.2.2) (a:=b.2.2) d e.2;Kh 0 f<|M2 (.ren [0,2,1] [2,1] []) (tS 1 true b.2.2.1<|aX Jc b.2.2.2.2) (tN a.2.2.length<|aa (f:=aw) (fun _=>rfl) a.2.2 0)<|M1 (.frz 2 []) (ce (tR 1 true b.2.2.1 2<|aX Jc b.2.2.2.2) rt ti)<|Mf<|et (aU q9) (by(have q:=d.done;rw[show kM L []=a.2.2 from c,q.1,q.2.1,q.2.2]):(av [AObj.row 1 false 0 [AV.slice 1 b.2.2.1 0 b.2.2.2.1 none],AObj.row 1 true b.2.2.1 (b.2.2.2.2.map aj)])=(av [j9 1 (pp (kM L []) ds ds-1) ([0]++iO (kM L []) ds ds).length,lD (pp (kM L []) ds ds-1) ([0]++iO (kM L []) ds ds)]))) fun c i j=>let k:=[ab [iV c.act,iV c.item,iV c.day,iV c.it.kind,aW<|c.it.at_.map az,aW<|c.it.to.map az,iV c.it.where_,iV c.it.nth_,iV c.it.unit.act,iV c.it.unit.item,iV c.it.unit.n,iV c.it.unit.kind,ax c.it.unit.label,aW<|c.it.unit.head.map aQ,aW<|c.it.unit.words.map aQ,aW<|c.it.unit.kids.map aK,aW<|c.it.old.map mN,aW<|c.it.new.map mN,ax c.it.label,ax c.it.for_,iV c.it.start.kind,iV c.it.start.day,ax c.it.start.event,iV c.it.act,iV c.it.item,iV c.it.day,ax c.it.event,aW<|c.it.by_.map NG]];let l:=ab [iV (aB a.2.2 c.act).kind,iV (aB a.2.2 c.act).day,ax (aB a.2.2 c.act).event];let m:=List.map aj<|cY<|ao (aB a.2.2 c.act) c ds;have n:=fY e.1 j;have:=am n;have o:=eO (enc:=aY) e.1 j;have p:=cq (J:=fun b c=>BrkB a.2.2 ds b c.1 c.2.1 c.2.2) (a:=b.2.2) j e.2;Kt 0 n<|Mx o<|Kp 5 (jv c.it.kind)<|Mb (ca c.it.kind) (fun _=>Ms (cY<|ao (aB a.2.2 c.act) c ds).isEmpty (fun m=>K1 4 (.look l) (hlk a.2.2 c.act)<|Kp 1 (gJ (aB a.2.2 c.act) c ds<|by(omega))<|M3 (.efx true q9<|av [aZ 1 false 0 g,AObj.map (aH aw a.2.2 0) a.2.2.length,aZ 1 true b.2.2.1 h,aZ 28 false 0 k]) (wR rt (tR 1 true b.2.2.1 4<|aX Jc b.2.2.2.2) (tM a.2.2.length 4<|aa (f:=aw) (fun _=>rfl) a.2.2 0) rt ti) (wR (aU<|some<|aZ 28 false 0 k) (aU<|some<|aZ 1 true b.2.2.1 h) (aU d) (aU<|some<|aZ 1 false 0 g) ti) (Xv (aB a.2.2 c.act) c ds a.2.2 b.2.2.1 b.2.2.2.1 b.2.2.2.2 m)<|Kl 0 46 (dV b.1)<|K1 0 (.frz 3 [1,4,7,26,27,28]) (jQ (tR 1 true b.2.2.1 3<|aX Jc b.2.2.2.2) (tM a.2.2.length 3<|aa (f:=aw) (fun _=>rfl) a.2.2 0) rt ti)<|Mf<|f (.inr (b.1+1,i,(b.2.2.1,b.2.2.2.1,b.2.2.2.2))) (et (bK e.1 j) (by exact p.nil (by assumption) (by assumption):(BrkB a.2.2 ds i b.2.2.1 b.2.2.2.1 b.2.2.2.2)))<|dn j) fun d=>K1 4 (.look l) (hlk a.2.2 c.act)<|Kp 1 (gJ (aB a.2.2 c.act) c ds<|by(omega))<|M3 (.efx false q9<|av [aZ 1 false 0 [aM 2 (b.2.2.1+1) 0 (b.2.2.2.1+m.length) none],AObj.map (aH aw a.2.2 0) a.2.2.length,aZ 1 true (b.2.2.1+1)<|(b.2.2.2.2++cY (ao (aB a.2.2 c.act) c ds)).map aj,aZ 28 false 0 k]) (wR rt (tR 1 true b.2.2.1 4<|aX Jc b.2.2.2.2) (tM a.2.2.length 4<|aa (f:=aw) (fun _=>rfl) a.2.2 0) rt ti) ti (Xw (aB a.2.2 c.act) c ds a.2.2 b.2.2.1 b.2.2.2.1 b.2.2.2.2 d (by exact p.len)<|by(have z:=p.small;have z2:=p.len;have z3:=Ic (e.1.trans j);simp only[lC]at z z3;omega))<|Kl 0 46 (dV b.1)<|K1 0 (.frz 3 [1,4,7,26,27,28]) (jQ (tR 1 true (b.2.2.1+1) 3<|aX Jc<|b.2.2.2.2++cY (ao (aB a.2.2 c.act) c ds)) (tM a.2.2.length 3<|aa (f:=aw) (fun _=>rfl) a.2.2 0) rt ti)<|Mf<|f (.inr (b.1+1,i,(b.2.2.1+1,b.2.2.2.1+m.length,b.2.2.2.2++cY (ao (aB a.2.2 c.act) c ds)))) (et (bK e.1 j) (by exact p.new (by assumption) (by assumption) rfl:(BrkB a.2.2 ds i (b.2.2.1+1) (b.2.2.2.1+m.length) (b.2.2.2.2++cY (ao (aB a.2.2 c.act) c ds)))))<|dn j) fun _=>Kl 0 46 (dV b.1)<|K1 0 (.frz 3 [1,4,7,26,27,28]) (jQ (tR 1 true b.2.2.1 3<|aX Jc b.2.2.2.2) (tM a.2.2.length 3<|aa (f:=aw) (fun _=>rfl) a.2.2 0) rt ti)<|Mf<|f (.inr (b.1+1,i,(b.2.2.1,b.2.2.2.1,b.2.2.2.2))) (et (bK e.1 j) (by exact p.no (by assumption):(BrkB a.2.2 ds i b.2.2.1 b.2.2.2.1 b.2.2.2.2)))<|dn j) fun d e f g _ h i=>Kt 0 g<|Mx h<|K1 7 (.upd (aH aw (cT d.number d.start a.2.2) 0) (cT d.number d.start a.2.2).length) (hup a.2.2 d)<|Kl 0 23 (dV a.1)<|K1 0 (.frz 2 [0,1,4,12,13,14]) (ce (tM (cT d.number d.start a.2.2).length 2<|aa (f:=aw) (fun _=>rfl) (cT d.number d.start a.2.2) 0) rt ti)<|Mf<|c (a.1+1,e,cT d.number d.start a.2.2) (et (bK b.1 f) (by exact i:(kM L []=kM e (cT d.number d.start a.2.2))))<|dn f
theorem Ge(zs:List Int)(ep n:Nat)(hn:n=zs.length)(hz:0<zs.length)(hb:zs.length<2^40):
    kD 53 [.slice 1 ep 0 n none] (av [j9 1 ep n,lD ep zs]) (.tuple []) (av [j9 1 ep n,lD ep (bc zs)]):=by
  subst hn
  exact(rL (Go.Proofs.Tryz.lsort.f5.enters rfl) (fun blk off cap zs w hH hb hs=>Go.Proofs.AnyM.slices_Sort_int Go.Proofs.Tryz.lsort blk off cap zs w hH hb hs) zs (h:=av [j9 1 ep zs.length,lD ep zs]) (id:=1) (op:=true) rfl hz (by omega)).mono fun v h ⟨h3,h4⟩=>⟨h3,h4.trans rfl⟩
theorem zG(zs:List Int)(ep n:Nat)(hn:n=zs.length)(hz:0<zs.length)(hb:zs.length<2^40):
    kD 54 [.slice 1 ep 0 n none] (av [j9 1 ep n,lD ep zs]) (.slice 1 ep 0 (an zs).length none) (av [j9 1 ep n,lD ep (an zs++List.replicate (zs.length-(an zs).length) 0)]):=by
  subst hn
  exact(oY (Go.Proofs.Tryz.lcompact.f43.enters rfl) (fun blk off cap zs w hH hb hs=>Go.Proofs.AnyG.slices_Compact_int Go.Proofs.Tryz.lcompact blk off cap zs w hH hb hs) zs (h:=av [j9 1 ep zs.length,lD ep zs]) (id:=1) (op:=true) rfl hz (by omega)).mono fun v h ⟨h3,h4⟩=>⟨h3,h4.trans rfl⟩
noncomputable def VY:Option (AV×AHeap)→Bool
  |some (.tuple [],_)=>true
  |_=>false
noncomputable def VV:Option (AV×AHeap)→Bool
  |some (.ps [.int .i64 n] true,_)=>ah n 0
  |_=>false
theorem UC{f:FuncId}{a:List AV}(k:Nat)(ht:aq a=0)(h:VY (io C k f a AHeap.none)=true):kP f a (.tuple []):=by
  cases hx:io C k f a AHeap.none with
  |none=>rw[hx]at h;cases h
  | some r=>
    obtain⟨v,h1⟩:=r
    rw[hx]at h
    have e:v=.tuple []:=by
      unfold VY at h
      split at h
      · rename_i q;cases q;rfl
      · cases h
    subst e
    exact my jK ht rfl ((aI.of (ev k) hx).mono fun v1 _ e=>e.1)
theorem UB{f:FuncId}{a:List AV}(k:Nat)(ht:aq a=0)(h:VV (io C k f a AHeap.none)=true):bX Tryz.prog G f a (.ps [.int .i64 0] true):=by
  cases hx:io C k f a AHeap.none with
  |none=>rw[hx]at h;cases h
  | some r=>
    obtain⟨v,h1⟩:=r
    rw[hx]at h
    have e:v=.ps [.int .i64 0] true:=by
      unfold VV at h
      split at h
      · rename_i q;cases q;rw[jZ h]
      · cases h
    subst e
    exact my jK ht rfl ((aI.of (ev k) hx).mono fun v1 _ e=>e.1)
theorem PZ:kP 53 [.ps [iV 0] true] (.tuple []):=UC 60 rfl (by kernel_rfl)
theorem He:bX Tryz.prog G 54 [.ps [.int .i64 0] true] (.ps [.int .i64 0] true):=UB 60 rfl (by kernel_rfl)
theorem ZH(gs:List PGaz)(hc:kD 47 [.ls (gs.map al),.func (.func 51) [] [.ptr 0 0 0 0]] (av [nJ]) (.tuple []) (av [nJ])):kP 31 [.ls (gs.map al)] (.ls (([0]:List Int).map aj)):=by
  exact bH Tryz.func31<|Ke 5 hc<|Kp 0 PZ<|Kp 0 He<|Kf 0 (fg [iV 0] _<|by rfl:Le _ (AV.ps [iV 0] true))
theorem MJ(X:List Int):(bc X).length=X.length:=(List.mergeSort_perm X _).length_eq
theorem ZG(gs:List PGaz)(X:List Int)(k:Nat)(hz:0<X.length)(hb:X.length<2^40)(hc:kD 47 [.ls (gs.map al),.func (.func 51) [] [.ptr 0 0 0 0]] (av [nJ]) (.tuple []) (av [j9 1 k X.length,lD k X])):kP 31 [.ls (gs.map al)] (.ls ((an (bc X)).map aj)):=by
  have hs:=MJ X
  have rr0 b' (h:((an (bc X)).map aj)=b':=by(rw[List.take_left'];rfl)):=h;exact bH Tryz.func31<|Ke 5 hc<|Ke 0 (Ge X k X.length (by(omega)) hz hb)<|Ke 0 (zG (bc X) k X.length (by(omega)) (by(omega))<|by(omega))<|Mg 0<|M2 (.fsl 0 [] 2<|((an (bc X)++List.replicate ((bc X).length -(an<|bc X).length) 0).take (an<|bc X).length).map aj) ti (ce (aU k) (yn (f:=aj) (l:=an (bc X)++List.replicate ((bc X).length -(an<|bc X).length) 0) (n:=(an<|bc X).length))<|aX Jc<|(an (bc X)++List.replicate ((bc X).length -(an<|bc X).length) 0).take (an<|bc X).length)<|Ml 2 (fg (((an (bc X)++List.replicate ((bc X).length -(an<|bc X).length) 0).take (an<|bc X).length).map aj) false<|aX Jc<|(an (bc X)++List.replicate ((bc X).length -(an<|bc X).length) 0).take (an<|bc X).length)<|Mf<|cW<|rr0<|((an (bc X)++List.replicate ((bc X).length -(an<|bc X).length) 0).take (an<|bc X).length).map aj
theorem Hd:an (bc [0])=[0]:=by
  have e:bc [0]=[0]:=List.mergeSort_singleton 0
  rw[e];rfl
/-- The program's days: in order, each once. -/
theorem YA(gs:List PGaz)(L:List PAct)(ds:List PDeed)(hL:L.length<10000)(hd:ds.length<10000)(ha:kP 67 [.ls (gs.map al)] (.ls (L.map ay)))(hi:kP 68 [.ls (gs.map al)] (.ls (ds.map aY))):
    kP 31 [.ls (gs.map al)] (.ls ((an (bc ([0]++iO (kM L []) ds ds))).map aj)):=by
  by_cases hE:iO (kM L []) ds ds=[]
  · have h:=ZH gs (NR gs L ds hL hd ha hi hE)
    rw[hE]
    have e:an (bc ([0]++[]))=[0]:=Hd
    rw[e];exact h
  · have hl:∀(r:List PDeed),(iO (kM L []) ds r).length≤2^22*r.length:=by
      intro r
      induction r with
      |nil=>exact au _
      | cons d r ih=>
        have h1:(Be (kM L []) ds d).length≤2^22:=by
          unfold Be
          cases ca d.it.kind
          · exact bG _
          · exact qD _ _ _
        simp only[iO,lA,lC];omega
    have:=hl ds
    exact ZG gs ([0]++iO (kM L []) ds ds) (pp (kM L []) ds ds-1) (by simp) (by rw[lA];simp only[lC,lN];omega) (NP gs L ds hL hd ha hi hE)
/-- What the amendments' days begin and end; in order, each once. -/
noncomputable def ZI(gs:List PGaz):List Int:=iO (kM (gu gs) []) (pJ gs) (pJ gs)
noncomputable def lG(gs:List PGaz):List Int:=an (bc ([0]++ZI gs))
theorem OkG.brk{gs:List PGaz}(h:OkG gs):kP 31 [.ls (gs.map al)] (.ls ((lG gs).map aj)):=by
  have hl:=h.lens
  exact YA gs _ _ (by omega) (by omega) h.all.1 h.all.2
theorem HC:∀{l:List PSpan},(∀s,s∈l→0≤s.from_∧s.from_<s.to∧s.to≤1048577)→∀z,z∈cY l→0≤z∧z<1048577
  | s::r,h,z,hz=>by
    have hs:=h s (eu ..)
    rw[cY]at hz
    rcases js.1 hz with q|q
    · unfold HD at q
      cases e:ap s.to 1048577<;>rw[e]at q
      · simp at q;omega
      · have:=am e;simp at q;omega
    · exact HC (fun x hx=>h x (eN _ hx)) z q
theorem LB(m:List (Int×PStart))(ds:List PDeed):∀(r:List PDeed)(z:Int),z∈iO m ds r→0≤z∧z<1048577
  | d::r,z,hz=>by
    rw[iO]at hz
    rcases js.1 hz with q|q
    · unfold Be at q
      cases e:ca d.it.kind<;>rw[e]at q
      · cases q
      · exact HC (jG _ _ _).ok z q
    · exact LB m ds r z q
theorem Dx{l:List Int}{z:Int}:z∈an (bc l)↔z∈l:=((sP (ou l)).2 z).trans (je l).mem_iff
theorem Ij(l:List Int):(an (bc l)).Pairwise (fun a b=>a<b):=(sP (ou l)).1
theorem Ed(gs:List PGaz):∀z,z∈lG gs→0≤z∧z<1048577:=fun z hz=>by
  rcases js.1 (Dx.1 hz)with q|q
  · rw[pG]at q;omega
  · exact LB _ _ _ z q
theorem Jo(gs:List PGaz):(0:Int)∈lG gs:=Dx.2 (Bn _ (pG.2 rfl))
theorem Xc{gs:List PGaz}{z:Int}(h:z∈ZI gs):z∈lG gs:=Dx.2 (v8 _ h)
theorem Fp:∀{l:List Int}{lo hi:Int},l.Pairwise (fun a b=>a<b)→(∀z,z∈l→lo≤z∧z<hi)→lo≤hi→(Int.ofNat l.length)≤hi-lo
  |[],lo,hi,_,_,h=>by simp only[lN,oN];omega
  | a::r,lo,hi,hp,hb,h=>by
    obtain⟨h1,h2⟩:=ic.1 hp
    obtain⟨q1,q2⟩:=hb a (eu ..)
    have:=Fp (lo:=a+1) (hi:=hi) h2 (fun z hz=>⟨by have:=h1 z hz;omega,(hb z (eN _ hz)).2⟩) (by omega)
    simp only[lC,oN]at *;omega
theorem oU(gs:List PGaz):(lG gs).length≤1048577:=by
  have:=Fp (Ij _) (Ed gs) (by omega)
  simp only[oN]at this
  show(an (bc ([0]++ZI gs))).length≤_
  omega
theorem LD:∀{l:List PSpan}{s:PSpan},s∈l→s.from_∈cY l∧(ap s.to 1048577=true→s.to∈cY l)
  | a::r,s,h=>by
    rw[cY]
    rcases eM.1 h with rfl|h
    · cases e:ap s.to 1048577 with
      |true=>rw[AA e];simp
      |false=>rw[AB e];simp
    · obtain⟨k1,k2⟩:=LD h
      exact⟨v8 _ k1,fun e=>v8 _ (k2 e)⟩
/-- Between boundaries nothing changes: of spans, of what is in force, of the book. -/
theorem NY{l:List PSpan}(h:NrmS l){x y d:Int}(hz:∀z,z∈cY l→z≤x∨y≤z)(hy:y≤1048577)(h1:x≤d)(h2:d<y):gI l d=gI l x:=by
  rw[DB h,DB h]
  have key:∀s,s∈l→((s.from_≤d∧d<s.to)↔(s.from_≤x∧x<s.to)):=fun s hs=>by
    obtain⟨k1,k2⟩:=LD hs
    have k3:=hz _ k1
    have k4:=(h.ok s hs).2.2
    cases e:ap s.to 1048577 with
    |true=>have:=hz _ (k2 e);omega
    |false=>have:=aE e;omega
  rw[A6,g9,g9]
  grind
theorem Cq(p:aO)(m:List (Int×PStart))(ds:List PDeed){x y d:Int}(hy:y≤1048577)(h1:x≤d)(h2:d<y):∀(r:List PDeed),(∀z,z∈iO m ds r→z≤x∨y≤z)→qz d p m ds r=qz x p m ds r
  |[],_=>rfl
  | e::r,h=>by
    have ih:=Cq p m ds hy h1 h2 r fun z hz=>h z (by rw[iO];exact v8 _ hz)
    cases ha:ca e.it.kind with
    |false=>rw[FL ha,FL ha,ih]
    | true=>
      have hb:wi d p m ds e=wi x p m ds e:=by
        unfold wi
        rw[NY (jG _ _ _) (fun z hz=>h z (by rw[sR ha];exact Bn _ hz)) hy h1 h2]
      cases q:wi x p m ds e with
      |true=>rw[FI ha q,FI ha (hb.trans q),ih]
      |false=>rw[CU q,CU (hb.trans q),ih]
theorem KG(p:aO)(m:List (Int×PStart))(ds:List PDeed){d:Int}(h:d<0∨1048576<d):∀(r:List PDeed),qz d p m ds r=[]
  |[]=>rfl
  | e::r=>by
    have ih:=KG p m ds h r
    have hb:wi d p m ds e=false:=by
      unfold wi
      rw[P7 (jG _ _ _) h,wW]
    rw[CU hb,ih]
theorem HA(gs:List PGaz)(p:aO){d:Int}(h:d<0∨1048576<d):be d p gs=uO:=by
  unfold be
  rw[show ql d p gs=[]from KG p _ _ h _];rfl
theorem At(gs:List PGaz)(p:aO){x y d:Int}(hz:∀z,z∈lG gs→z≤x∨y≤z)(hy:y≤1048577)(h1:x≤d)(h2:d<y):be d p gs=be x p gs:=by
  unfold be
  rw[show ql d p gs=ql x p gs from Cq p _ _ hy h1 h2 _ fun z h=>hz z (Xc h)]
/-- How many points lie at or before a day. -/
def zt(d:Int):List Int→Int
  |[]=>0
  |z::r=>match ap d z with|true=>zt d r|false=>zt d r+1
theorem rP{d z:Int}{r:List Int}(h:ap d z=false):zt d (z::r)=zt d r+1:=by simp only[zt,h]
theorem wC{d z:Int}{r:List Int}(h:ap d z=true):zt d (z::r)=zt d r:=by simp only[zt,h]
theorem Va(d:Int):∀(l:List Int),0≤zt d l
  |[]=>Int.le_refl _
  | z::r=>by
    have:=Va d r
    cases h:ap d z with
    |true=>rw[wC h];exact this
    |false=>rw[rP h];omega
theorem GY{d e:Int}(h:d≤e):∀(l:List Int),zt d l≤zt e l
  |[]=>Int.le_refl _
  | z::r=>by
    have:=GY h r
    cases h1:ap d z with
    | true=>
      rw[wC h1]
      cases h2:ap e z with
      |true=>rw[wC h2];exact this
      |false=>rw[rP h2];omega
    | false=>
      have h2:ap e z=false:=gr (by have:=aE h1;omega)
      rw[rP h1,rP h2];omega
theorem zp{d e:Int}(h:d≤e):∀(l:List Int),zt d l=zt e l→∀z,z∈l→z≤d∨e+1≤z
  |[],_,z,hz=>by cases hz
  | y::r,hq,z,hz=>by
    have hm:=GY h r
    have key:zt d r=zt e r∧(y≤d∨e+1≤y):=by
      cases h1:ap d y with
      | true=>
        have z1:=am h1
        cases h2:ap e y with
        |true=>have:=am h2;rw[wC h1,wC h2]at hq;exact⟨hq,.inr (by omega)⟩
        |false=>rw[wC h1,rP h2]at hq;omega
      | false=>
        have z1:=aE h1
        have h2:ap e y=false:=gr (by omega)
        rw[rP h1,rP h2]at hq
        exact⟨by omega,.inl z1⟩
    rcases eM.1 hz with rfl|hz
    · exact key.2
    · exact zp h r key.1 z hz
theorem DH{d:Int}:∀{l:List Int}{z:Int},z∈l→z≤d→1≤zt d l
  | y::r,z,hz,hd=>by
    rcases eM.1 hz with rfl|hz
    · have:=Va d r;rw[rP (gr (by omega))];omega
    · have:=DH hz hd
      cases h:ap d y with
      |true=>rw[wC h];exact this
      |false=>rw[rP h];omega
/-- The interval of a day. -/
def Gw(d:Int)(l:List Int):Int:=match ap d 0||ap 1048576 d with|true=> -1|false=>zt d l-1
theorem xS{d:Int}{l:List Int}(h:(ap d 0||ap 1048576 d)=true):Gw d l= -1:=by simp only[Gw,h]
theorem zD{d:Int}{l:List Int}(h:(ap d 0||ap 1048576 d)=false):Gw d l=zt d l-1:=by simp only[Gw,h]
theorem tu{d:Int}:(ap d 0||ap 1048576 d)=true↔(d<0∨1048576<d):=by
  rw[rB]
  exact⟨fun h=>h.imp am am,fun h=>h.imp jF jF⟩
/-- Days of one interval have one book. -/
theorem TH(gs:List PGaz)(p:aO){d e:Int}(h:Gw d (lG gs)=Gw e (lG gs)):be d p gs=be e p gs:=by
  cases hd:(ap d 0||ap 1048576 d)with
  | true=>
    cases he:(ap e 0||ap 1048576 e)with
    |true=>rw[HA gs p (tu.1 hd),HA gs p (tu.1 he)]
    | false=>
      rw[xS hd,zD he]at h
      have he2:¬(e<0∨1048576<e):=fun q=>by rw[tu.2 q]at he;cases he
      have:=DH (d:=e) (Jo gs) (by omega)
      omega
  | false=>
    have hd2:¬(d<0∨1048576<d):=fun q=>by rw[tu.2 q]at hd;cases hd
    cases he:(ap e 0||ap 1048576 e)with
    | true=>
      rw[zD hd,xS he]at h
      have:=DH (d:=d) (Jo gs) (by omega)
      omega
    | false=>
      have he2:¬(e<0∨1048576<e):=fun q=>by rw[tu.2 q]at he;cases he
      rw[zD hd,zD he]at h
      rcases Int.le_total d e with q|q
      · exact(At gs p (y:=e+1) (zp q _ (by omega)) (by omega) q (by omega)).symm
      · exact At gs p (y:=d+1) (zp q _ (by omega)) (by omega) q (by omega)
/-- The days on which the book changes. -/
noncomputable def pi(b:Int→TUnit)(a:TUnit):List Int→List Int
  |[]=>[]
  |d::r=>match vC (b d) a with|true=>pi b (b d) r|false=>d::pi b (b d) r
theorem Vo{b:Int→TUnit}{a:TUnit}{d:Int}{r:List Int}(h:vC (b d) a=false):pi b a (d::r)=d::pi b (b d) r:=by simp only[pi,h]
theorem Vr{b:Int→TUnit}{a:TUnit}{d:Int}{r:List Int}(h:vC (b d) a=true):pi b a (d::r)=pi b (b d) r:=by simp only[pi,h]
theorem yV(b:Int→TUnit):∀(l:List Int)(a:TUnit),(pi b a l).Sublist l
  |[],_=>.slnil
  | d::r,a=>by
    have ih:=yV b r (b d)
    cases h:vC (b d) a with
    |true=>rw[Vr h];exact ih.cons d
    |false=>rw[Vo h];exact ih.cons_cons d
noncomputable def Ey(p:aO)(gs:List PGaz):List Int:=pi (fun d=>be d p gs) (be (-1) p gs) (lG gs)
theorem UD(p:aO)(gs:List PGaz):(Ey p gs).Pairwise (fun a b=>a<b):=(Ij _).sublist (yV _ _ _)
theorem Ho{p:aO}{gs:List PGaz}{z:Int}(h:z∈Ey p gs):z∈lG gs:=(yV _ _ _).subset h
theorem Al(p:aO)(gs:List PGaz):(Ey p gs).length≤1048577:=b0 (yV _ _ _).length_le (oU gs)
/-- The last up to a day; the first behind it. -/
def pn(d:Int):List Int→Int→Int
  |[],x=>x
  |z::r,x=>match ap d z with|true=>pn d r x|false=>pn d r z
theorem I0{d z x:Int}{r:List Int}(h:ap d z=false):pn d (z::r) x=pn d r z:=by simp only[pn,h]
theorem Qq{d z x:Int}{r:List Int}(h:ap d z=true):pn d (z::r) x=pn d r x:=by simp only[pn,h]
theorem Gq{d:Int}:∀{l:List Int}(x:Int),(∀z,z∈l→d<z)→pn d l x=x
  |[],_,_=>rfl
  |z::r,x,h=>by rw[Qq (jF (h z (eu ..)))];exact Gq x fun y hy=>h y (eN _ hy)
/-- The first behind a day. -/
def Dr(d:Int):List Int→Int×Bool
  |[]=>(0,false)
  |z::r=>match ap d z with|true=>(z,true)|false=>Dr d r
theorem Vk{d z:Int}{r:List Int}(h:ap d z=true):Dr d (z::r)=(z,true):=by simp only[Dr,h]
theorem Vw{d z:Int}{r:List Int}(h:ap d z=false):Dr d (z::r)=Dr d r:=by simp only[Dr,h]
theorem IE(d:Int):∀(l:List Int),l.Pairwise (fun a b=>a<b)→(Dr d l=(0,false)∧∀z,z∈l→z≤d)∨∃v,Dr d l=(v,true)∧v∈l∧d<v∧∀z,z∈l→z≤d∨v≤z
  |[],_=>.inl ⟨rfl,fun z hz=>by cases hz⟩
  | z::r,hp=>by
    obtain⟨p1,p2⟩:=ic.1 hp
    cases h:ap d z with
    | true=>
      refine .inr ⟨z,Vk h,eu ..,am h,fun y hy=>?_⟩
      rcases eM.1 hy with rfl|hy
      · exact .inr (Int.le_refl _)
      · exact .inr (Int.le_of_lt (p1 y hy))
    | false=>
      have hz:=aE h
      rw[Vw h]
      rcases IE d r p2 with⟨q1,q2⟩|⟨v,q1,q2,q3,q4⟩
      · refine .inl ⟨q1,fun y hy=>?_⟩
        rcases eM.1 hy with rfl|hy
        · exact hz
        · exact q2 y hy
      · refine .inr ⟨v,q1,eN _ q2,q3,fun y hy=>?_⟩
        rcases eM.1 hy with rfl|hy
        · exact .inl hz
        · exact q4 y hy
section
variable(p:aO)(gs:List PGaz)
end
/-- The law of the constant book, its facts. -/
structure CstF(b:Int→TUnit)(d n:Int)(x:Int×Bool):Prop where
  zero:ap n 0=true→(b d).kids.length=0
  le:ap n 0=false→ap d n=false
  s1:ap n 0=false→vC (b d) (b n)=true
  s2:ap n 0=false→vC (b d) (b (n-1))=false
  s3:ap n 0=false→vC (b n) (b (n-1))=false
  s4:x.2=true→ap d x.1=true∧vC (b d) (b (x.1-1))=true∧vC (b d) (b x.1)=false
/-- What the law's rounds know: what is left lies behind the day, and nothing else does. -/
structure AscI(c r:List Int)(at_:Int):Prop where
  out:∀z,z∈c→at_<z→z∈r
  in_:∀z,z∈r→at_<z∧z∈c
  up:r.Pairwise (fun a b=>a<b)
theorem AscI.start{c:List Int}(h:c.Pairwise (fun a b=>a<b))(h0:∀z,z∈c→0≤z):AscI c c (-1):=⟨fun _ hz _=>hz,fun z hz=>⟨by have:=h0 z hz;omega,hz⟩,h⟩
theorem AscI.step{c r:List Int}{w a:Int}(h:AscI c (w::r) a):AscI c r w:=by
  obtain⟨p1,p2⟩:=ic.1 h.up
  refine⟨fun z hz hw=>?_,fun z hz=>⟨p1 z hz,(h.in_ z (eN _ hz)).2⟩,p2⟩
  have hw0:=(h.in_ w (eu ..)).1
  rcases eM.1 (h.out z hz (by omega))with q|q
  · omega
  · exact q
theorem AscI.nx{c r:List Int}{w a:Int}(h:AscI c (w::r) a)(hc:c.Pairwise (fun a b=>a<b)):Dr a c=(w,true):=by
  obtain⟨h1,h2⟩:=h.in_ w (eu ..)
  rcases IE a c hc with⟨_,q⟩|⟨v,q1,q2,q3,q4⟩
  · have:=q w h2;omega
  · have h3:w≤v:=by
      rcases eM.1 (h.out v q2 q3)with k|k
      · omega
      · have:=(ic.1 h.up).1 v k;omega
    have h4:=q4 w h2
    rw[q1,show v=w by omega]
theorem AscI.end_{c:List Int}{a:Int}(h:AscI c [] a)(hc:c.Pairwise (fun a b=>a<b)):Dr a c=(0,false):=by
  rcases IE a c hc with⟨q,_⟩|⟨v,_,q2,q3,_⟩
  · exact q
  · cases h.out v q2 q3
theorem GU{w:Int}:∀{l:List Int}(x:Int),l.Pairwise (fun a b=>a<b)→w∈l→pn w l x=w
  | z::r,x,hp,hw=>by
    obtain⟨p1,p2⟩:=ic.1 hp
    rcases eM.1 hw with rfl|hw
    · rw[I0 (gr (Int.le_refl _))]
      exact Gq _ p1
    · have:=p1 w hw
      rw[I0 (gr (by omega))]
      exact GU z p2 hw
theorem AscI.la{c r:List Int}{w a:Int}(h:AscI c (w::r) a)(hc:c.Pairwise (fun a b=>a<b)):pn w c (-1)=w:=GU (-1) hc (h.in_ w (eu ..)).2
/-- A set of days as the law writes it. -/
def B6(l:List Int)(m:List (Int×Bool)):List (Int×Bool):=l.foldl (fun m z=>cT z true m) m
theorem uY{V:Type}(k j:Int)(v:V):∀(m:List (Int×V)),dA j (cT k v m)=match ah j k with|true=>some v|false=>dA j m
  |[]=>by simp only[cT,dA];cases ah j k<;>rfl
  | (i,u)::r=>by
    rw[cT]
    cases h:ah k i with
    | true=>
      have e:=jZ h
      subst e
      simp only[dA];cases ah j k<;>rfl
    | false=>
      simp only[dA]
      cases h2:ah j i with
      | true=>
        have e:=jZ h2
        subst e
        have h3:ah j k=false:=by
          cases q:ah j k with
          |false=>rfl
          |true=>rw[jZ q,bw]at h;cases h
        rw[h3]
      |false=>exact uY k j v r
theorem B0{z:Int}:∀(l:List Int)(m:List (Int×Bool)),dA z m=some true→dA z (B6 l m)=some true
  |[],_,h=>h
  |y::r,m,h=>B0 r _ (by rw[uY];cases ah z y<;>simp[h])
theorem Dv{z:Int}:∀(l:List Int)(m:List (Int×Bool)),z∈l→dA z (B6 l m)=some true
  | y::r,m,h=>by
    rcases eM.1 h with rfl|h
    · exact B0 r _ (by rw[uY,bw])
    · exact Dv r _ h
def Wh(day:Int)(B:List Int)(x0:Nat×List Int×Int):Prop:=(B).drop x0.1=x0.2.1∧(-1:Int)≤x0.2.2∧x0.2.2+Int.ofNat x0.2.1.length≤Int.ofNat B.length∧zt day B=zt day x0.2.1+(x0.2.2+(1:Int))
noncomputable def Wg(day:Int)(B:List Int)(x0:Nat×List Int×Int):List AV×List AObj:=([iV day,iV x0.2.2,AV.ls (B.map aj),nV B.length,nV x0.1],[])
theorem qe(gs:List PGaz)(day:Int)(B:List Int)(hB:B.length<2^30)(hb:kP 31 [.ls (gs.map al)] (.ls (B.map aj))):kP 56 [iV day,.ls (gs.map al)] (iV (Gw day B)):=by
  have rr0 b' (h:(Gw day B)=b':=by first|exact(zD (Bu.2 ⟨by assumption,by assumption⟩)).trans (by rw[hj0.2.2];simp only[zt];omega)|exact xS (Bool.or_eq_true_iff.2 (.inl ‹_›))|exact xS (Bool.or_eq_true_iff.2 (.inr ‹_›))):=h;exact bH Tryz.func56<|Ka 3 day 0 (fun a _=>Mt a<|MV a<|Kf 1<|li<|rr0 (-1)) fun a _=>Kh 0 a<|Kw 0 a<|Mb (ap 1048576 day) (fun a=>have:=am a;Kf 0<|li<|rr0 (-1)) fun a=>have:=aE a;Kp 1 hb<|Kl 0 16 (ln aj B)<|Mg 0<|H0 aj B ((-1):Int) [0,5,15,16,17] (fun a _ b=>([iV day,iV b,aW<|B.map aj,nV B.length,nV a],[])) (fun a b=>((-1):Int)≤b∧b+Int.ofNat a.length≤Int.ofNat B.length∧zt day B=zt day a+(b+(1:Int))) (by(exact⟨by omega,by simp only[oN];omega,by omega⟩)) (fun _ _ a _ _ _ b hj0=>Kh 0 b<|Kf 1<|li<|rr0 a) fun a _ b _ _ c d e _ f _ g hj0=>Kt 0 f<|Mx g<|Kd 4 day c (fun _ _=>Kl 1 25 (Le.wr (x:=b+1) e9)<|Kl 1 26 (dV a)<|Kf 0<|e (b+1)<|by exact⟨by omega,by(have z:=hj0.2.1;simp only[lC,oN]at *;omega),by rw[hj0.2.2,rP (by assumption)];omega⟩) fun _ _=>Kl 0 26 (dV a)<|Kf 0<|e b<|by exact⟨by omega,by(have z:=hj0.2.1;simp only[lC,oN]at *;omega),by rw[hj0.2.2,wC (by assumption)]⟩
noncomputable abbrev DE(gs:List PGaz):AObj:=.row 1 false 0 [.ls (gs.map al)]
noncomputable abbrev DL:AObj:=.row 1 false 0 [.map 2]
noncomputable abbrev gC(m:List (Int×TUnit)):AObj:=.map (aH eU m 0) m.length
noncomputable abbrev Ow(u:TUnit):AObj:=.row 8 false 0 [eU u]
noncomputable abbrev bkF:AV:=.func (.func 55) [] [.ptr 1 0 0 0,.ptr 3 0 0 0,.ptr 0 0 0 0]
theorem RO(gs:List PGaz)(p:aO):kD 32 [.str p,.ls (gs.map al)] (av []) bkF (av [eQ p,DE gs,gC [],DL]):=by
  exact eV Tryz.func32 fun a=>Kf 7 a
theorem Xe(gs:List PGaz)(p:aO)(day c:Int)(m:List (Int×TUnit))(u:TUnit)(hi:kP 56 [iV day,.ls (gs.map al)] (iV c))(hm:dA c m=some u):
    kD 55 [iV day,.ptr 1 0 0 0,.ptr 3 0 0 0,.ptr 0 0 0 0] (av [eQ p,DE gs,gC m,DL]) (eU u) (av [eQ p,DE gs,gC m,DL]):=by
  have hlk:dZ (some zU) true (bQ false 1 [(0,1)] (iV c) (aH eU m 0) 0)=some (.tuple [eU u,.bool true]):=by rw[iI,hm]
  exact eV Tryz.func55 fun a=>Kp 2 hi<|K1 2 (.look<|bO [ab [iV u.act,iV u.item,iV u.n,iV u.kind,ax u.label,aW<|u.head.map aQ,aW<|u.words.map aQ,aW<|u.kids.map aK],dT true]) hlk<|K1 10 (.frz 4 [5]) (wR rt (tM m.length 4<|aa (f:=eU) (fun _=>rfl) m 0) rt rt ti)<|Mf a
theorem UF(gs:List PGaz)(p:aO)(day c:Int)(m:List (Int×TUnit))(u:TUnit)(hi:kP 56 [iV day,.ls (gs.map al)] (iV c))(hm:dA c m=none)(hb:kP 14 [iV day,.str p,.ls (gs.map al)] (eU u)):
    kD 55 [iV day,.ptr 1 0 0 0,.ptr 3 0 0 0,.ptr 0 0 0 0] (av [eQ p,DE gs,gC m,DL]) (eU u) (av [eQ p,DE gs,gC (cT c u m),DL]):=by
  have hlk:dZ (some zU) true (bQ false 1 [(0,1)] (iV c) (aH eU m 0) 0)=some (.tuple [zU,.bool false]):=by rw[iI,hm];rfl
  have hup:nM (aH eU m 0) m.length (iV c) (eU u) (bQ false 1 [(0,1)] (iV c) (aH eU m 0) 0)=some (aH eU (cT c u m) 0,(cT c u m).length):=mJ c u m
  exact eV Tryz.func55 fun a=>Kp 2 hi<|K1 2 (.look<|bO [ab [iV 0,iV 0,iV 0,iV 0,ax [],af,af,af],dT false]) hlk<|Kp 11 hb<|K1 3 (.upd (aH eU (cT c u m) 0) (cT c u m).length) hup<|K1 1 (.frz 4 [5]) (wR rt (tM (cT c u m).length 4<|aa (f:=eU) (fun _=>rfl) (cT c u m) 0) rt rt ti)<|Mf a
/-- What is known of the books: each is its interval's. -/
def jy(gs:List PGaz)(p:aO)(m:List (Int×TUnit)):Prop:=∀c u,dA c m=some u→∀d,Gw d (lG gs)=c→be d p gs=u
theorem Nq(gs:List PGaz)(p:aO):jy gs p []:=fun c u h=>by cases h
theorem jy.put{gs:List PGaz}{p:aO}{m:List (Int×TUnit)}(h:jy gs p m)(d:Int):jy gs p (cT (Gw d (lG gs)) (be d p gs) m):=fun c u hu e he=>by
  rw[uY]at hu
  cases q:ah c (Gw d (lG gs))with
  |true=>rw[q]at hu;rw[←E0 hu];exact TH gs p (he.trans (jZ q))
  |false=>rw[q]at hu;exact h c u hu e he
/-- The books after a day was asked for. -/
noncomputable def lZ(gs:List PGaz)(p:aO)(d:Int)(m:List (Int×TUnit)):List (Int×TUnit):=match dA (Gw d (lG gs)) m with|some _=>m|none=>cT (Gw d (lG gs)) (be d p gs) m
theorem jy.go{gs:List PGaz}{p:aO}{m:List (Int×TUnit)}(h:jy gs p m)(d:Int):jy gs p (lZ gs p d m):=by
  unfold lZ
  cases dA (Gw d (lG gs)) m with
  |some _=>exact h
  |none=>exact h.put d
theorem aaE(gs:List PGaz)(ok:OkG gs)(p:aO)(day:Int)(m:List (Int×TUnit))(hm:jy gs p m):
    kD 55 [iV day,.ptr 1 0 0 0,.ptr 3 0 0 0,.ptr 0 0 0 0] (av [eQ p,DE gs,gC m,DL]) (eU (be day p gs)) (av [eQ p,DE gs,gC (lZ gs p day m),DL]):=by
  have hi:=qe gs day (lG gs) (by have:=oU gs;omega) ok.brk
  unfold lZ
  cases q:dA (Gw day (lG gs)) m with
  |some u=>rw[hm _ _ q day rfl];exact Xe gs p day _ m u hi q
  |none=>exact UF gs p day _ m _ hi q (ok.book day p)
theorem UH(gs:List PGaz)(p:aO)(day c:Int)(m:List (Int×TUnit))(u a:TUnit)(hi:kP 56 [iV day,.ls (gs.map al)] (iV c))(hm:dA c m=some u):
    kD 55 [iV day,.ptr 1 0 0 0,.ptr 3 0 0 0,.ptr 0 0 0 0] (av [eQ p,DE gs,gC m,DL,Ow a]) (eU u) (av [eQ p,DE gs,gC m,DL,Ow a]):=by
  have hlk:dZ (some zU) true (bQ false 1 [(0,1)] (iV c) (aH eU m 0) 0)=some (.tuple [eU u,.bool true]):=by rw[iI,hm]
  exact eV Tryz.func55 fun b=>Kp 2 hi<|K1 2 (.look<|bO [ab [iV u.act,iV u.item,iV u.n,iV u.kind,ax u.label,aW<|u.head.map aQ,aW<|u.words.map aQ,aW<|u.kids.map aK],dT true]) hlk<|K1 10 (.frz 5 [5]) (vB rt rt (tM m.length 5<|aa (f:=eU) (fun _=>rfl) m 0) rt rt ti)<|Mf b
theorem RT(gs:List PGaz)(p:aO)(day c:Int)(m:List (Int×TUnit))(u a:TUnit)(hi:kP 56 [iV day,.ls (gs.map al)] (iV c))(hm:dA c m=none)(hb:kP 14 [iV day,.str p,.ls (gs.map al)] (eU u)):
    kD 55 [iV day,.ptr 1 0 0 0,.ptr 3 0 0 0,.ptr 0 0 0 0] (av [eQ p,DE gs,gC m,DL,Ow a]) (eU u) (av [eQ p,DE gs,gC (cT c u m),DL,Ow a]):=by
  have hlk:dZ (some zU) true (bQ false 1 [(0,1)] (iV c) (aH eU m 0) 0)=some (.tuple [zU,.bool false]):=by rw[iI,hm];rfl
  have hup:nM (aH eU m 0) m.length (iV c) (eU u) (bQ false 1 [(0,1)] (iV c) (aH eU m 0) 0)=some (aH eU (cT c u m) 0,(cT c u m).length):=mJ c u m
  exact eV Tryz.func55 fun b=>Kp 2 hi<|K1 2 (.look<|bO [ab [iV 0,iV 0,iV 0,iV 0,ax [],af,af,af],dT false]) hlk<|Kp 11 hb<|K1 3 (.upd (aH eU (cT c u m) 0) (cT c u m).length) hup<|K1 1 (.frz 5 [5]) (vB rt rt (tM (cT c u m).length 5<|aa (f:=eU) (fun _=>rfl) (cT c u m) 0) rt rt ti)<|Mf b
theorem UG(gs:List PGaz)(p:aO)(day c:Int)(m:List (Int×TUnit))(u a:TUnit)(ep:Nat)(out:List Int)(hi:kP 56 [iV day,.ls (gs.map al)] (iV c))(hm:dA c m=some u):
    kD 55 [iV day,.ptr 1 0 0 0,.ptr 3 0 0 0,.ptr 0 0 0 0] (av [eQ p,DE gs,gC m,DL,Ow a,lD ep out]) (eU u) (av [eQ p,DE gs,gC m,DL,Ow a,lD ep out]):=by
  have hlk:dZ (some zU) true (bQ false 1 [(0,1)] (iV c) (aH eU m 0) 0)=some (.tuple [eU u,.bool true]):=by rw[iI,hm]
  exact eV Tryz.func55 fun b=>Kp 2 hi<|K1 2 (.look<|bO [ab [iV u.act,iV u.item,iV u.n,iV u.kind,ax u.label,aW<|u.head.map aQ,aW<|u.words.map aQ,aW<|u.kids.map aK],dT true]) hlk<|K1 10 (.frz 6 [5]) (EM (tR 1 true ep 6<|aX Jc out) rt rt (tM m.length 6<|aa (f:=eU) (fun _=>rfl) m 0) rt rt ti)<|Mf b
theorem RS(gs:List PGaz)(p:aO)(day c:Int)(m:List (Int×TUnit))(u a:TUnit)(ep:Nat)(out:List Int)(hi:kP 56 [iV day,.ls (gs.map al)] (iV c))(hm:dA c m=none)(hb:kP 14 [iV day,.str p,.ls (gs.map al)] (eU u)):
    kD 55 [iV day,.ptr 1 0 0 0,.ptr 3 0 0 0,.ptr 0 0 0 0] (av [eQ p,DE gs,gC m,DL,Ow a,lD ep out]) (eU u) (av [eQ p,DE gs,gC (cT c u m),DL,Ow a,lD ep out]):=by
  have hlk:dZ (some zU) true (bQ false 1 [(0,1)] (iV c) (aH eU m 0) 0)=some (.tuple [zU,.bool false]):=by rw[iI,hm];rfl
  have hup:nM (aH eU m 0) m.length (iV c) (eU u) (bQ false 1 [(0,1)] (iV c) (aH eU m 0) 0)=some (aH eU (cT c u m) 0,(cT c u m).length):=mJ c u m
  exact eV Tryz.func55 fun b=>Kp 2 hi<|K1 2 (.look<|bO [ab [iV 0,iV 0,iV 0,iV 0,ax [],af,af,af],dT false]) hlk<|Kp 11 hb<|K1 3 (.upd (aH eU (cT c u m) 0) (cT c u m).length) hup<|K1 1 (.frz 6 [5]) (EM (tR 1 true ep 6<|aX Jc out) rt rt (tM (cT c u m).length 6<|aa (f:=eU) (fun _=>rfl) (cT c u m) 0) rt rt ti)<|Mf b
theorem ZM(gs:List PGaz)(ok:OkG gs)(p:aO)(a:TUnit)(day:Int)(m:List (Int×TUnit))(hm:jy gs p m):
    kD 55 [iV day,.ptr 1 0 0 0,.ptr 3 0 0 0,.ptr 0 0 0 0] (av [eQ p,DE gs,gC m,DL,Ow a]) (eU (be day p gs)) (av [eQ p,DE gs,gC (lZ gs p day m),DL,Ow a]):=by
  have hi:=qe gs day (lG gs) (by have:=oU gs;omega) ok.brk
  unfold lZ
  cases q:dA (Gw day (lG gs)) m with
  |some u=>rw[hm _ _ q day rfl];exact UH gs p day _ m u a hi q
  |none=>exact RT gs p day _ m _ a hi q (ok.book day p)
theorem ZL(gs:List PGaz)(ok:OkG gs)(p:aO)(a:TUnit)(ep:Nat)(out:List Int)(day:Int)(m:List (Int×TUnit))(hm:jy gs p m):
    kD 55 [iV day,.ptr 1 0 0 0,.ptr 3 0 0 0,.ptr 0 0 0 0] (av [eQ p,DE gs,gC m,DL,Ow a,lD ep out]) (eU (be day p gs)) (av [eQ p,DE gs,gC (lZ gs p day m),DL,Ow a,lD ep out]):=by
  have hi:=qe gs day (lG gs) (by have:=oU gs;omega) ok.brk
  unfold lZ
  cases q:dA (Gw day (lG gs)) m with
  |some u=>rw[hm _ _ q day rfl];exact UG gs p day _ m u a ep out hi q
  |none=>exact RS gs p day _ m _ a ep out hi q (ok.book day p)
theorem RF(gs:List PGaz)(B:List Int)(hb:kP 31 [.ls (gs.map al)] (.ls (B.map aj))):kP 10 [.ls (gs.map al)] (.ls (B.map aj)):=by
  exact bH Tryz.func10<|Kp 1 hb<|Kf 0<|bi<|aW<|B.map aj
theorem Vs{b:Int→TUnit}{a u:TUnit}{d:Int}{r:List Int}(hu:u=b d)(h:vC u a=false):pi b a (d::r)=d::pi b u r:=by subst hu;exact Vo h
theorem Vp{b:Int→TUnit}{a u:TUnit}{d:Int}{r:List Int}(hu:u=b d)(h:vC u a=true):pi b a (d::r)=pi b u r:=by subst hu;exact Vr h
def Ec(gs:List PGaz)(p:aO)(B:List Int)(x0:Nat×List Int×List (Int×TUnit)×TUnit):Prop:=(B).drop x0.1=x0.2.1∧jy gs p x0.2.2.1∧jo x0.2.2.2∧pi (fun d=>be d p gs) (be (-1:Int) p gs) B=pi (fun d=>be d p gs) x0.2.2.2 x0.2.1
noncomputable def uB(gs:List PGaz)(p:aO)(B:List Int)(x0:Nat×List Int×List (Int×TUnit)×TUnit):List AV×List AObj:=([AV.func (Fn.func 55) [] [AV.ptr 1 0 0 0,AV.ptr 3 0 0 0,AV.ptr 0 0 0 0],AV.ptr 4 0 0 0,AV.nils,AV.ls (B.map aj),nV B.length,nV x0.1],[AObj.row 1 false 0 [AV.str p],AObj.row 1 false 0 [AV.ls (gs.map al)],AObj.map (aH eU x0.2.2.1 0) x0.2.2.1.length,AObj.row 1 false 0 [AV.map 2],AObj.row 8 false 0 [AV.agg [iV x0.2.2.2.act,iV x0.2.2.2.item,iV x0.2.2.2.n,iV x0.2.2.2.kind,AV.str x0.2.2.2.label,AV.ls (x0.2.2.2.head.map aQ),AV.ls (x0.2.2.2.words.map aQ),AV.ls (x0.2.2.2.kids.map aK)]]])
def Eb(gs:List PGaz)(p:aO)(B:List Int)(x0:Nat×List Int×List (Int×TUnit)×TUnit×Nat×Nat×List Int):Prop:=(B).drop x0.1=x0.2.1∧jy gs p x0.2.2.1∧jo x0.2.2.2.1∧x0.2.2.2.2.2.1=x0.2.2.2.2.2.2.length∧x0.2.2.2.2.2.1+x0.2.1.length≤B.length∧pi (fun d=>be d p gs) (be (-1:Int) p gs) B=x0.2.2.2.2.2.2++pi (fun d=>be d p gs) x0.2.2.2.1 x0.2.1
noncomputable def Ea(gs:List PGaz)(p:aO)(B:List Int)(x0:Nat×List Int×List (Int×TUnit)×TUnit×Nat×Nat×List Int):List AV×List AObj:=([AV.func (Fn.func 55) [] [AV.ptr 1 0 0 0,AV.ptr 3 0 0 0,AV.ptr 0 0 0 0],AV.ptr 4 0 0 0,AV.slice 5 x0.2.2.2.2.1 0 x0.2.2.2.2.2.1 none,AV.ls (B.map aj),nV B.length,nV x0.1],[AObj.row 1 false 0 [AV.str p],AObj.row 1 false 0 [AV.ls (gs.map al)],AObj.map (aH eU x0.2.2.1 0) x0.2.2.1.length,AObj.row 1 false 0 [AV.map 2],AObj.row 8 false 0 [AV.agg [iV x0.2.2.2.1.act,iV x0.2.2.2.1.item,iV x0.2.2.2.1.n,iV x0.2.2.2.1.kind,AV.str x0.2.2.2.1.label,AV.ls (x0.2.2.2.1.head.map aQ),AV.ls (x0.2.2.2.1.words.map aQ),AV.ls (x0.2.2.2.1.kids.map aK)]],AObj.row 1 true x0.2.2.2.2.1 (x0.2.2.2.2.2.2.map aj)])
theorem Jl(gs:List PGaz)(ok:OkG gs)(p:aO):kP 11 [.str p,.ls (gs.map al)] (.ls ((Ey p gs).map aj)):=by
  have hB:=RF gs _ ok.brk
  have hl:=oU gs
  have h0:=ok.book (-1) p
  have hb:=RO gs p
  have k1:=ZM gs ok p
  have k2:=ZL gs ok p
  have f0:jo (be (-1) p gs):=FO (ok.okB (-1) p)
  have fb:∀d,jo (be d p gs):=fun d=>FO (ok.okB d p)
  have he:∀d a,jo a→kP 33 [eU (be d p gs),eU a] (.bool (vC (be d p gs) a)):=fun d a ha=>OG _ (fb d) a ha
  show bX _ _ _ _ (.ls ((pi (fun d=>be d p gs) (be (-1) p gs) (lG gs)).map aj))
  generalize lG gs=B at *
  have rr0 b' (h:((pi (fun d=>be d p gs) (be (-1) p gs) B).map aj)=b':=by first|rfl|(rw[hj0.2.2];rfl)|(rw[hj0.2.2.2.2];exact congrArg (List.map aj) (ec _))):=h;exact bH Tryz.func11<|Ke 2 hb<|Kp 2 h0<|Kp 3 hB<|Kl 0 19 (ln aj B)<|Mg 0<|MM (Nat×List Int×List (Int×TUnit)×TUnit) (Nat×List Int×List (Int×TUnit)×TUnit×Nat×Nat×List Int) [5,6,7,18,19,20] (uB gs p B) (Ea gs p B) (Ec gs p B) (Eb gs p B) (fun b=>b.2.1.length) (fun b=>b.2.1.length) (.inl (0,B,([],be (-1) p gs))) (aU<|uB gs p B (0,B,([],be (-1) p gs))) (et (rfl:List.drop 0 (B)=B) (by(exact⟨Nq gs p,f0,rfl⟩):(jy gs p []∧jo (be (-1:Int) p gs)∧pi (fun d=>be d p gs) (be (-1:Int) p gs) B=pi (fun d=>be d p gs) (be (-1:Int) p gs) B))) (fun b c e=>Mc b.2.1 (fun e=>have f:=eP c.1 e;have hj0:=gw (J:=fun b c=>jy gs p c.1∧jo c.2∧pi (fun d=>be d p gs) (be ((-1):Int) p gs) B=pi (fun d=>be d p gs) c.2 b) (a:=b.2.2) e c.2;Kh 0 f<|Kf 1 (Le.lsn<|rr0 []:Le _ (af))) fun f g i=>have j:=fY c.1 i;have:=am j;have k:=eO (enc:=aj) c.1 i;have hj0:=cq (J:=fun b c=>jy gs p c.1∧jo c.2∧pi (fun d=>be d p gs) (be ((-1):Int) p gs) B=pi (fun d=>be d p gs) c.2 b) (a:=b.2.2) i c.2;Kt 0 j<|Mx k<|Ke 3 (k1 b.2.2.2 f b.2.2.1<|by exact hj0.1)<|Kp 3 (he f b.2.2.2<|by exact hj0.2.1)<|Kn 0 (vC (be f p gs) b.2.2.2) (fun _=>Kl 7 36 (dV b.1)<|K1 0 (.ren [0,1,2,3,4,6,5] [2] [5,6,7,18,19,20]) (tN (lZ gs p f b.2.2.1).length<|aa (f:=eU) (fun _=>rfl) (lZ gs p f b.2.2.1) 0)<|M1 (.frz 6 [5,6,7,18,19,20]) (EM rt rt rt (tM (lZ gs p f b.2.2.1).length 6<|aa (f:=eU) (fun _=>rfl) (lZ gs p f b.2.2.1) 0) rt rt ti)<|Mf<|e (.inr (b.1+1,g,(lZ gs p f b.2.2.1,be f p gs,0,1,[f]))) (et (bK c.1 i) (by exact⟨hj0.1.go f,fb f,rfl,(by have z:=fS c.1 i;show 1+g.length≤B.length;omega),by rw[hj0.2.2,Vs rfl (by assumption)];rfl⟩:(jy gs p (lZ gs p f b.2.2.1)∧jo (be f p gs)∧(1:Nat)=[f].length∧(1:Nat)+g.length≤B.length∧pi (fun d=>be d p gs) (be (-1:Int) p gs) B=[f]++pi (fun d=>be d p gs) (be f p gs) g)))<|dn i) fun _=>Kl 2 36 (dV b.1)<|K1 0 (.frz 5 [5,6,7,18,19,20]) (vB rt rt (tM (lZ gs p f b.2.2.1).length 5<|aa (f:=eU) (fun _=>rfl) (lZ gs p f b.2.2.1) 0) rt rt ti)<|Mf<|e (.inl (b.1+1,g,(lZ gs p f b.2.2.1,be f p gs))) (et (bK c.1 i) (by exact⟨hj0.1.go f,fb f,by rw[hj0.2.2,Vp rfl (by assumption)]⟩:(jy gs p (lZ gs p f b.2.2.1)∧jo (be f p gs)∧pi (fun d=>be d p gs) (be (-1:Int) p gs) B=pi (fun d=>be d p gs) (be f p gs) g)))<|dn i) fun b c e=>let f:=List.map aj b.2.2.2.2.2.2;Mc b.2.1 (fun e=>have g:=eP c.1 e;have hj0:=gw (J:=fun b c=>jy gs p c.1∧jo c.2.1∧c.2.2.2.1=c.2.2.2.2.length∧c.2.2.2.1+b.length≤B.length∧pi (fun d=>be d p gs) (be ((-1):Int) p gs) B=c.2.2.2.2++pi (fun d=>be d p gs) c.2.1 b) (a:=b.2.2) e c.2;Kh 0 g<|Mg 1<|M2 (.fsl 0 [] 4 f) ti (ce (aU b.2.2.2.2.1) (tA aj b.2.2.2.2.2.2 b.2.2.2.2.2.1 (by(omega):(b.2.2.2.2.2.2).length=b.2.2.2.2.2.1))<|aX Jc b.2.2.2.2.2.2)<|Ml 4 (fg f false<|aX Jc b.2.2.2.2.2.2)<|Mf<|cW<|rr0 f) fun f g i=>have j:=fY c.1 i;have:=am j;have k:=eO (enc:=aj) c.1 i;have hj0:=cq (J:=fun b c=>jy gs p c.1∧jo c.2.1∧c.2.2.2.1=c.2.2.2.2.length∧c.2.2.2.1+b.length≤B.length∧pi (fun d=>be d p gs) (be ((-1):Int) p gs) B=c.2.2.2.2++pi (fun d=>be d p gs) c.2.1 b) (a:=b.2.2) i c.2;Kt 0 j<|Mx k<|Ke 3 (k2 b.2.2.2.1 b.2.2.2.2.1 b.2.2.2.2.2.2 f b.2.2.1<|by exact hj0.1)<|Kp 3 (he f b.2.2.2.1<|by exact hj0.2.1)<|Kn 0 (vC (be f p gs) b.2.2.2.1) (fun _=>K1 2 .app (ce (aU b.2.2.2.2.1) (by(rw[lM];exact hj0.2.2.1):b.2.2.2.2.2.1=(b.2.2.2.2.2.2.map aj).length) (by(have z:=hj0.2.2.2.1;simp only[lC]at z;refine dY (m:=2^23) ?_ ?_ ?_<;>first|omega|decide):small (b.2.2.2.2.2.1+1) 8=true))<|M1 (.obj 5<|aZ 1 true (b.2.2.2.2.1+1)<|(b.2.2.2.2.2.2++[f]).map aj) (congrArg (aZ 1 true<|b.2.2.2.2.1+1)<|dQ (f:=aj) (l:=b.2.2.2.2.2.2) (ws:=[f]))<|Kl 3 36 (dV b.1)<|K1 0 (.frz 6 [5,6,7,18,19,20]) (EM (tR 1 true (b.2.2.2.2.1+1) 6<|aX Jc<|b.2.2.2.2.2.2++[f]) rt rt (tM (lZ gs p f b.2.2.1).length 6<|aa (f:=eU) (fun _=>rfl) (lZ gs p f b.2.2.1) 0) rt rt ti)<|Mf<|e (.inr (b.1+1,g,(lZ gs p f b.2.2.1,be f p gs,b.2.2.2.2.1+1,b.2.2.2.2.2.1+1,b.2.2.2.2.2.2++[f]))) (et (bK c.1 i) (by exact⟨hj0.1.go f,fb f,by rw[lA,←hj0.2.2.1];rfl,by(have z:=hj0.2.2.2.1;simp only[lC]at z;omega),by rw[hj0.2.2.2.2,Vs rfl (by assumption)];simp⟩:(jy gs p (lZ gs p f b.2.2.1)∧jo (be f p gs)∧b.2.2.2.2.2.1+1=(b.2.2.2.2.2.2++[f]).length∧b.2.2.2.2.2.1+1+g.length≤B.length∧pi (fun d=>be d p gs) (be (-1:Int) p gs) B=b.2.2.2.2.2.2++[f]++pi (fun d=>be d p gs) (be f p gs) g)))<|dn i) fun _=>Kl 2 36 (dV b.1)<|K1 0 (.frz 6 [5,6,7,18,19,20]) (EM (tR 1 true b.2.2.2.2.1 6<|aX Jc b.2.2.2.2.2.2) rt rt (tM (lZ gs p f b.2.2.1).length 6<|aa (f:=eU) (fun _=>rfl) (lZ gs p f b.2.2.1) 0) rt rt ti)<|Mf<|e (.inr (b.1+1,g,(lZ gs p f b.2.2.1,be f p gs,b.2.2.2.2.1,b.2.2.2.2.2.1,b.2.2.2.2.2.2))) (et (bK c.1 i) (by exact⟨hj0.1.go f,fb f,hj0.2.2.1,by(have z:=hj0.2.2.2.1;simp only[lC]at z;omega),by rw[hj0.2.2.2.2,Vp rfl (by assumption)]⟩:(jy gs p (lZ gs p f b.2.2.1)∧jo (be f p gs)∧b.2.2.2.2.2.1=b.2.2.2.2.2.2.length∧b.2.2.2.2.2.1+g.length≤B.length∧pi (fun d=>be d p gs) (be (-1:Int) p gs) B=b.2.2.2.2.2.2++pi (fun d=>be d p gs) (be f p gs) g)))<|dn i
/-- Where the first behind a day stands. -/
theorem PN(d:Int):∀(l:List Int),(Dr d l=(0,false)∧∀k,k<l.length→ap d (gD l k)=false)∨∃m,m<l.length∧Dr d l=(gD l m,true)∧ap d (gD l m)=true∧∀k,k<m→ap d (gD l k)=false
  |[]=>.inl ⟨rfl,fun k hk=>absurd hk (nF _)⟩
  | z::r=>by
    cases h:ap d z with
    |true=>exact .inr ⟨0,vS _,Vk h,h,fun k hk=>absurd hk (nF _)⟩
    | false=>
      rw[Vw h]
      rcases PN d r with⟨q1,q2⟩|⟨m,q1,q2,q3,q4⟩
      · refine .inl ⟨q1,fun k hk=>?_⟩
        cases k with
        |zero=>exact h
        |succ k=>exact q2 k (by simp only[lC]at hk;omega)
      · refine .inr ⟨m+1,by simp only[lC];omega,q2,q3,fun k hk=>?_⟩
        cases k with
        |zero=>exact h
        |succ k=>exact q4 k (by omega)
theorem PO(day d:Int):kD 35 [iV d,.ptr 0 0 0 0] (av [fG day]) (.bool (ap day d)) (av [fG day]):=by
  exact eV Tryz.func35 fun a=>Kf 4 a
noncomputable abbrev ZK:AV:=.func (.func 35) [] [.ptr 0 0 0 0]
theorem YQ(S:List Int)(day:Int)(m:Nat)(hs:S.length<2^30)(hm:m<S.length)(hA:∀k,k<m→ap day (gD S k)=false)(hB:ap day (gD S m)=true):kD 34 [.ls (S.map aj),ZK] (av [fG day]) (nV m) (av [fG day]):=by
  have hk:∀x,x≤m→ap day (gD S x)=true→x=m:=fun x h1 h2=>by
    rcases fZ x m with h|h
    · rw[hA x h]at h2;cases h2
    · omega
  have hk2:∀x,x≤m→ap day (gD S x)=false→x+1≤m:=fun x h1 h2=>by
    rcases fZ x m with h|h
    · exact h
    · rw[show x=m by omega,hB]at h2;cases h2
  let q:=av [aZ 1 false 0 [iV day]];exact Oj Tryz.func34<|Kl 2 7 (ln aj S)<|Mg 0<|ZP (0:Nat) [0,1,7,8] (fun a=>([aW<|S.map aj,bU (bY 35) [] [bz 0 0 0 0],nV S.length,nV a],[aZ 1 false 0 [iV day]])) (fun a=>a≤m) (fun a=>S.length-a) (by exact bG _) fun a b c=>have b:=b;Ka 0 (Int.ofNat a) (Int.ofNat S.length) (fun _ _=>Kx 4 (bW aj (oA:a<(S).length))<|Ke 0 (PO day<|gD S a)<|Mb (ap day<|gD S a) (fun c=>have:=am c;Kf 1<|et (by(rw[hk _ b (by assumption)]):(nV a)=(nV m))<|aU q) fun d=>have:=aE d;Kl 0 18 (jU a)<|Kf 0<|c (a+1) (by exact hk2 _ b (by assumption))<|by(omega)) fun _ _=>Kf 0<|et (by(exfalso;(simp only[oN]at *;omega)):(iV (-1))=(nV m))<|aU q
theorem YZ(S:List Int)(day:Int)(hs:S.length<2^30)(hA:∀k,k<S.length→ap day (gD S k)=false):kD 34 [.ls (S.map aj),ZK] (av [fG day]) (iV (-1)) (av [fG day]):=by
  exact eV Tryz.func34 fun a=>Kl 2 7 (ln aj S)<|Mg 0<|ZP (0:Nat) [0,1,7,8] (fun a=>([aW<|S.map aj,bU (bY 35) [] [bz 0 0 0 0],nV S.length,nV a],[aZ 1 false 0 [iV day]])) (fun a=>a≤S.length) (fun a=>S.length-a) (by exact bG _) fun b c d=>have:=c;Ka 0 (Int.ofNat b) (Int.ofNat S.length) (fun _ _=>Kx 4 (bW aj (by(simp only[oN,lM,lS]at *;omega):b<(S).length))<|Ke 0 (PO day<|gD S b)<|Mb (ap day<|gD S b) (fun a=>have:=am a;Kf 1<|et (by(have z:=hA b (by(simp only[oN]at *;omega));simp_all;done):(nV b)=(iV (-1)))<|aU<|av [aZ 1 false 0 [iV day]]) fun a=>have:=aE a;Kl 0 18 (jU b)<|Kf 0<|d (b+1) (by(simp only[oN]at *;omega))<|by(simp only[oN]at *;omega)) fun _ _=>Kf 0 a
theorem Zo(gs:List PGaz)(day:Int)(p:aO)(S:List Int)(hc:kP 11 [.str p,.ls (gs.map al)] (.ls (S.map aj)))(hi:kD 34 [.ls (S.map aj),ZK] (av [fG day]) (iV (-1)) (av [fG day])):kP 12 [iV day,.str p,.ls (gs.map al)] (.tuple [iV 0,.bool false]):=by
  exact bH Tryz.func12<|Kp 4 hc<|Ke 2 hi<|Kf 5<|bi<|bO [iV 0,dT false]
theorem Zn(gs:List PGaz)(day:Int)(p:aO)(S:List Int)(m:Nat)(hm:m<S.length)(hs:S.length<2^30)(hc:kP 11 [.str p,.ls (gs.map al)] (.ls (S.map aj)))(hi:kD 34 [.ls (S.map aj),ZK] (av [fG day]) (nV m) (av [fG day])):kP 12 [iV day,.str p,.ls (gs.map al)] (.tuple [iV (gD S m),.bool true]):=by
  exact bH Tryz.func12<|Kp 4 hc<|Ke 2 hi<|Kx 5 (bW aj (oA:m<(S).length))<|Kf 2<|bi<|bO [iV<|gD S m,dT true]
theorem Tv(gs:List PGaz)(ok:OkG gs)(day:Int)(p:aO):kP 12 [iV day,.str p,.ls (gs.map al)] (.tuple [iV (Dr day (Ey p gs)).1,.bool (Dr day (Ey p gs)).2]):=by
  have hl:=Al p gs
  have hc:=Jl gs ok p
  rcases PN day (Ey p gs)with⟨q1,q2⟩|⟨m,q1,q2,q3,q4⟩
  · rw[q1];exact Zo gs day p _ hc (YZ _ day (by omega) q2)
  · rw[q2];exact Zn gs day p _ m q1 (by omega) hc (YQ _ day m (by omega) q1 q4 q3)
theorem Yx(gs:List PGaz)(day:Int)(p:aO)(S:List Int)(hs:S.length<2^30)(hc:kP 11 [.str p,.ls (gs.map al)] (.ls (S.map aj))):kP 13 [iV day,.str p,.ls (gs.map al)] (iV (pn day S (-1))):=by
  have rr0 b' (h:(pn day S (-1))=b':=by(rw[hj0];rfl)):=h;exact bH Tryz.func13<|Kp 3 hc<|Kl 0 13 (ln aj S)<|Mg 0<|H0 aj S ((-1):Int) [0,7,12,13,14] (fun a _ b=>([iV day,iV b,aW<|S.map aj,nV S.length,nV a],[])) (fun a b=>pn day S ((-1):Int)=pn day a b) (by rfl) (fun _ _ a _ _ _ b hj0=>Kh 0 b<|Kf 1<|li<|rr0 a) fun a _ b _ _ c d e _ f _ g hj0=>Kt 0 f<|Mx g<|Kd 4 day c (fun _ _=>Kl 2 22 (dV a)<|Kf 0<|e c<|by exact hj0.trans (I0 (by assumption))) fun _ _=>Kl 0 22 (dV a)<|Kf 0<|e b<|by exact hj0.trans (Qq (by assumption))
theorem Ny(gs:List PGaz)(ok:OkG gs)(day:Int)(p:aO):kP 13 [iV day,.str p,.ls (gs.map al)] (iV (pn day (Ey p gs) (-1))):=Yx gs day p _ (by have:=Al p gs;omega) (Jl gs ok p)

def uz(b:Bool):AV:=.bool b
def F9(m:List (Int×Bool))(z:Int):Bool:=(dA z m).getD false
theorem Wk(m:List (Int×Bool))(z:Int):dZ (some (.bool false)) false (bQ false 1 [(0,1)] (iV z) (aH uz m 0) 0)=some (.bool (F9 m z)):=by
  rw[sr]
  unfold F9
  cases dA z m<;>rfl
theorem XF(m:List (Int×Bool))(z:Int):nM (aH uz m 0) m.length (iV z) (.bool true) (bQ false 1 [(0,1)] (iV z) (aH uz m 0) 0)=some (aH uz (cT z true m) 0,(cT z true m).length):=mJ (f:=uz) z true m
theorem Pz{l r t:List Int}{w:Int}{i:Nat}(h:l.drop i=r)(hr:r=w::t):gD l i=w:=by
  subst hr
  have hi:i<l.length:=by
    have:=congrArg List.length h
    rw[vT,lC]at this;omega
  have z:=yX hi
  rw[h]at z
  exact(List.cons.inj z).1.symm
theorem VX{l:List Int}(h:l.Pairwise (fun a b=>a<b)){i:Nat}(h0:0<i)(hi:i<l.length):ap (gD l (i-1)) (gD l i)=true:=by
  have:=EO.1 h (i-1) i (by omega) hi (by omega)
  refine jF ?_
  grind[gD]
theorem Xh(gs:List PGaz)(p:aO)(haw:kP 8 [] (.bool true))(hw:kP 9 [.ls (gs.map al),.str p] (.bool false)):kP 3 [.str p,.ls (gs.map al)] (.bool true):=by
  exact bH Tryz.func3<|Kp 0 haw<|Kp 3 hw<|Kp 2 haw<|Kf 0<|bi<|dT true
theorem Xi(gs:List PGaz)(p:aO)(B S:List Int)(haw:kP 8 [] (.bool true))(hw:kP 9 [.ls (gs.map al),.str p] (.bool true))
    (hb:kP 10 [.ls (gs.map al)] (.ls (B.map aj)))(hc:kP 11 [.str p,.ls (gs.map al)] (.ls (S.map aj)))
    (hx:∀d,kP 12 [iV d,.str p,.ls (gs.map al)] (.tuple [iV (Dr d S).1,.bool (Dr d S).2]))
    (hla:∀d,kP 13 [iV d,.str p,.ls (gs.map al)] (iV (pn d S (-1))))
    (hB:B.Pairwise (fun a b=>a<b))(hS:S.Pairwise (fun a b=>a<b))(hBi:∀z,z∈B→ap z 0=false∧ap 1048576 z=false)(hSi:∀z,z∈S→0≤z∧z∈B)(h0:(0:Int)∈B)(hBl:B.length<2^22)(hSl:S.length<2^22):
    kP 3 [.str p,.ls (gs.map al)] (.bool true):=by
  have hlk:=Wk
  have hup:=XF
  have rr0 b' (h:(true)=b':=by first|rfl|(exfalso;have z:=VX hB (i:=zi0) e9 e9;rw[qw]at z;simp_all;done)|(exfalso;have z:=VX hS (i:=zi1) e9 e9;rw[qv]at z;simp_all;done)|(have e:B6 B []=za0:=hj0;rw[←e];unfold F9;rw[Dv B [] h0];rfl)|(exfalso;have z2:=hj1.end_ hS;simp_all;done)):=h;exact bH Tryz.func3<|Kp 0 haw<|Kp 3 hw<|Kp 5 hb<|Kl 2 30 (ln aj B)<|Mg 0<|H0 aj B ([]:List (Int×Bool)) [0,1,5,6,29,30,31] (fun c _ f=>([ax p,aW<|gs.map al,AV.map 0,aW<|B.map aj,aW<|B.map aj,nV B.length,nV c],[AObj.map (aH uz f 0) f.length])) (fun c f=>B6 B []=B6 c f) (by rfl) (fun zi0 _ za0 _ _ _ c hj0=>Kh 0 c<|Kp 1 hc<|Kl 3 62 (ln aj S)<|Mg 0<|H0 aj S ((-1):Int) [0,1,5,9,10,61,62,63] (fun c _ f=>([ax p,aW<|gs.map al,AV.map 0,aW<|S.map aj,iV f,aW<|S.map aj,nV S.length,nV c],[AObj.map (aH uz za0 0) za0.length])) (fun c f=>AscI S c f) (by(exact AscI.start hS (fun z hz=>(hSi z hz).1))) (fun zi1 _ c _ _ _ f hj1=>Kh 0 f<|Kp 2 (hx c)<|Kn 7 (Dr c S).2 (fun c=>Kt 0 (cH c)<|M1 (.look<|dT<|F9 za0 0) (hlk za0 0)<|MV (cH c)<|Kf 0<|cb<|rr0<|F9 za0 0) fun c=>Mh (bR c)<|My (bR c)<|Ky 0<|rr0 false) fun zi1 _ c f _ g j k l m _ n hj1=>have qv:=Pz f l;have f:F9 za0 g=true:=(by rw[←show B6 B []=za0 from hj0];unfold F9;rw[Dv B [] (hSi _ (aR f l)).2];rfl);have l:(Dr c S).2=true:=(by rw[hj1.nx hS]);have o:ah (Dr c S).1 g=true:=(by rw[hj1.nx hS];exact bw _);have q:ah (pn g S (-1:Int)) g=true:=(by rw[hj1.la hS];exact bw _);Kt 0 m<|Kx 0 n<|Kp 5 (hx c)<|K1 6 (.look<|dT<|F9 za0 g) (hlk za0 g)<|Kh 1 (bR f)<|Kh 0 (bR f)<|Kh 0 (bR f)<|Ka 0 0 (Int.ofNat zi1) (fun c _=>Kt 0 c<|Kt 0 c<|Kl 0 85 (BG zi1)<|Mt c<|Mx (bW aj (by(simp only[oN,lM,lS]at *;omega):zi1-1<(S).length))<|Mt c<|Kt 0 c<|Kt 0 c<|Kh 0 (bR f)<|MV c<|My (bR f)<|Kd 0 (gD S<|zi1-1) g (fun c _=>Mt (cH c)<|MV (cH c)<|Ky 5<|rr0 false) fun c _=>Kh 0 (bR c)<|Kw 0 (bR c)<|Kh 0 (bR l)<|Kh 0 (bR l)<|Kh 0 (bR l)<|Kw 0 (bR l)<|Kh 0 (bR o)<|Kh 0 (bR o)<|Kh 0 (bR o)<|Kh 0 (bR o)<|Mp (hla g)<|Mh (bR o)<|Kh 0 (bR o)<|Kw 0 (bR o)<|Mh (bR q)<|Kl 2 110 (jU zi1)<|Kf 0<|k g<|by exact hj1.step) fun c _=>Mh c<|Mh c<|Mh c<|Mh c<|Mh c<|Mh c<|Mh (bR f)<|My c<|My (bR f)<|Kh 4 (bR l)<|Kh 0 (bR l)<|Kh 0 (bR l)<|Kw 0 (bR l)<|Kh 0 (bR o)<|Kh 0 (bR o)<|Kh 0 (bR o)<|Kh 0 (bR o)<|Mp (hla g)<|Mh (bR o)<|Kh 0 (bR o)<|Kw 0 (bR o)<|Mh (bR q)<|Kl 2 110 (jU zi1)<|Kf 0<|k g<|by exact hj1.step) fun zi0 _ za0 c _ f g j k l _ m hj0=>have qw:=Pz c k;have n:=(hBi _<|aR c k).1;have c:=(hBi _<|aR c k).2;Kt 0 l<|Kx 0 m<|Ka 5 0 (Int.ofNat zi0) (fun k _=>Kt 0 k<|Kt 0 k<|Kl 0 41 (BG zi0)<|Mt k<|Mx (bW aj (by(simp only[oN,lM,lS]at *;omega):zi0-1<(B).length))<|Mt k<|Kt 0 k<|Kt 0 k<|Ku 0 k<|Kd 0 (gD B<|zi0-1) f (fun c _=>Mt (cH c)<|MV (cH c)<|Ky 3<|rr0 false) fun k _=>Kh 0 (bR k)<|Kw 0 (bR k)<|Kh 0 n<|Kh 0 n<|Kw 0 n<|Mh c<|K1 1 (.upd (aH uz (cT f true za0) 0) (cT f true za0).length) (hup za0 f)<|Kl 0 57 (jU zi0)<|Kf 0<|j (cT f true za0)<|by exact hj0) fun k _=>Mh k<|Mh k<|Mh k<|Mh k<|Mh k<|Mh k<|My k<|Kh 4 n<|Kh 0 n<|Kw 0 n<|Mh c<|K1 1 (.upd (aH uz (cT f true za0) 0) (cT f true za0).length) (hup za0 f)<|Kl 0 57 (jU zi0)<|Kf 0<|j (cT f true za0)<|by exact hj0
/-- The law of the ascending days, whole. -/
theorem Bg(p:aO)(gs:List PGaz)(hf:pc gs)(hl:gs.length<2^47)(haw:kP 8 [] (.bool true)):kP 3 [.str p,.ls (gs.map al)] (.bool true):=by
  have hw:=NA gs p hf hl
  cases hb:vA gs p with
  |false=>rw[hb]at hw;exact Xh gs p haw hw
  | true=>
    rw[hb]at hw
    have ok:=PI hf hb
    exact Xi gs p (lG gs) (Ey p gs) haw hw (RF gs _ ok.brk) (Jl gs ok p) (fun d=>Tv gs ok d p) (fun d=>Ny gs ok d p) (Ij _) (UD p gs) (fun z hz=>by have:=Ed gs z hz;exact⟨gr (by omega),gr (by omega)⟩) (fun z hz=>⟨(Ed gs z (Ho hz)).1,Ho hz⟩) (Jo gs) (by have:=oU gs;omega) (by have:=Al p gs;omega)
end Go.Proofs.YtaepacpodblomaaGreatDoor
