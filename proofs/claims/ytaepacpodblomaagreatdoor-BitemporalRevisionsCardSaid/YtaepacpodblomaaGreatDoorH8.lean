/- Functions walked: what each of them answers, for A day is among the changed days of a gazette exactly if the book differs before and after it, and revisions and retroactive days are consistent: part 8. Conditions: those that each theorem names. -/
import Derived.Test.YtaepacpodblomaaGreatDoorH7
namespace Go.Proofs.YtaepacpodblomaaGreatDoor
open Go Go.Ev
noncomputable def HO(s:PSpan):List Int:=match au s.to 1048577 with|true=>[s.from_,s.to]|false=>[s.from_]
noncomputable def cY:List PSpan→List Int
  |[]=>[]
  |s::r=>HO s++cY r
theorem BV{s:PSpan}(h:au s.to 1048577=true):HO s=[s.from_,s.to]:=by simp only[HO,h]
theorem BU{s:PSpan}(h:au s.to 1048577=false):HO s=[s.from_]:=by simp only[HO,h]
theorem SU(s:PSpan):(HO s).length≤2:=by unfold HO;cases au s.to 1048577<;>simp
theorem De:∀(l:List PSpan),(cY l).length≤2*l.length
  |[]=>ar _
  | s::r=>by
    have:=De r;have:=SU s
    simp only[cY,lA,lC];omega
theorem BT(l:List PSpan)(hl:l.length<2^30):kP 52 [.ls (l.map aJ)] (.ls ((cY (fj l)).map ak)):=by
  have hn:=gQ l hl
  have hq:=(jE l).len
  generalize fj l=N at *
  have rr0 b' (h:((cY N).map ak)=b':=by first|rfl|exact aX Jl _|(rw[hj0];rfl)|(rw[hj0.2.2];simp[cY])):=h;exact bC Tryz.func52<|Kp 2 hn<|Kl 0 8 (ln aJ N)<|Mg 0<|kw Nat Nat (List Int) aJ N [3,7,8,9] (fun a _=>([af,aW<|N.map aJ,nV N.length,nV a],[])) (fun a _ b c d=>([aI 0 b 0 c none,aW<|N.map aJ,nV N.length,nV a],[aZ 1 true b<|d.map ak])) (fun a=>cY N=cY a) (fun a _ b c=>b=c.length∧c.length+2*a.length≤2^21+10∧cY N=c++cY a) (by rfl) (fun _ _ _ _ _ a hj0=>Kh 0 a<|Kf 1 (Le.lsn<|rr0 []:Le _ (af))) (fun a _ b _ c d _ e f g _ i hj0=>Kt 0 g<|Mx i<|Ka 11 c.to 1048577 (fun _ _=>Kl 6 26 (dW a)<|Mg 0<|M0 (.ren [1,0] [] [3,7,8,9])<|M1 (.frz 1 [3,7,8,9]) (et rt ti)<|Mf<|e 1 2 [c.from_,c.to]<|by exact⟨rfl,by(have:=ft b f;simp only[lC,lN]<;>(omega)),by rw[hj0,cY];first|rw[BV (by assumption)]|rw[BU (by assumption)]⟩) fun _ _=>Kl 0 26 (dW a)<|Mg 0<|M0 (.ren [1,0] [] [3,7,8,9])<|M1 (.frz 1 [3,7,8,9]) (et rt ti)<|Mf<|e 0 1 [c.from_]<|by exact⟨rfl,by(have:=ft b f;simp only[lC,lN]<;>(omega)),by rw[hj0,cY];first|rw[BV (by assumption)]|rw[BU (by assumption)]⟩) (fun _ _ a b c _ _ _ d hj0=>Kh 0 d<|Mg 1<|M2 (.fsl 0 [] 2<|c.map ak) ti (cj (aq a) (tA ak c b (by(omega):(c).length=b))<|aX Jl c)<|Ml 2 (eS (c.map ak) false<|aX Jl c)<|Mf<|b6<|rr0<|c.map ak) fun a _ b c d _ _ e f _ g _ i _ j hj0=>Kt 0 i<|Mx j<|K1 6 .app (cj (aq b) (by(rw[lM];exact hj0.1):c=(d.map ak).length) (by(have z:=hj0.2.1;refine cK (m:=2^22) ?_ ?_ ?_<;>first|(omega)|(simp only[lA,lC,lN]<;>(first|omega|(simp only[oN]at *;omega)))):small (c+1) 8=true))<|M1 (.obj 0<|aZ 1 true (b+1)<|(d++[e.from_]).map ak) (congrArg (aZ 1 true<|b+1)<|cM (f:=ak) (l:=d) (ws:=[e.from_]))<|Ka 3 e.to 1048577 (fun _ _=>K1 3 .app (cj (aq<|b+1) (by(simp only[lM,lA,lC,lN]<;>(omega)):c+1=((d++[e.from_]).map ak).length) (by(have z:=hj0.2.1;refine cK (m:=2^22) ?_ ?_ ?_<;>first|(omega)|(simp only[lA,lC,lN]<;>(first|omega|(simp only[oN]at *;omega)))):small (c+1+1) 8=true))<|M1 (.obj 0<|aZ 1 true (b+1+1)<|(d++[e.from_]++[e.to]).map ak) (congrArg (aZ 1 true<|b+1+1)<|cM (f:=ak) (l:=d++[e.from_]) (ws:=[e.to]))<|Kl 1 26 (dW a)<|K1 0 (.frz 1 [3,7,8,9]) (et (tR 1 true (b+1+1) 1<|aX Jl<|d++[e.from_]++[e.to]) ti)<|Mf<|g (b+1+1) (c+1+1) (d++[e.from_]++[e.to])<|by exact⟨by(simp only[lA,lC,lN]<;>(omega)),by(have z:=hj0.2.1;simp only[lA,lC,lN]at * <;>(omega)),by rw[hj0.2.2,cY];first|(rw[BV (by assumption)];simp)|(rw[BU (by assumption)];simp)⟩) fun _ _=>Kl 0 26 (dW a)<|K1 0 (.frz 1 [3,7,8,9]) (et (tR 1 true (b+1) 1<|aX Jl<|d++[e.from_]) ti)<|Mf<|g (b+1) (c+1) (d++[e.from_])<|by exact⟨by(simp only[lA,lC,lN]<;>(omega)),by(have z:=hj0.2.1;simp only[lA,lC,lN]at * <;>(omega)),by rw[hj0.2.2,cY];first|(rw[BV (by assumption)];simp)|(rw[BU (by assumption)];simp)⟩
noncomputable abbrev ny:AObj:=.row 1 false 0 [.ps [iV 0] true]
noncomputable abbrev j8(i ep n:Nat):AObj:=.row 1 false 0 [.slice i ep 0 n none]
theorem EV{α:Type}{f:α→AV}{l:List α}(h:0<l.length):l.map f≠[]:=by
  intro e;have:=congrArg List.length e;simp at this;subst this;simp at h
theorem V1(d:PDeed)(ss:List PSpan)(B:List Int)(m:List (Int×PStart))(hB:kP 52 [.ls (ss.map aJ)] (.ls (B.map ak)))(hb:B.length=0):
    kD 51 [aU d,.ls (ss.map aJ),.ptr 0 0 0 0] (ab [ny,bm m,dx d]) (.tuple []) (ab [ny,bm m,dx d]):=by
  let q:=[az [iV d.act,iV d.item,iV d.day,iV d.it.kind,aW (d.it.at_.map aj),aW (d.it.to.map aj),iV d.it.where_,iV d.it.nth_,iV d.it.unit.act,iV d.it.unit.item,iV d.it.unit.n,iV d.it.unit.kind,aK d.it.unit.label,aW (d.it.unit.head.map aQ),aW (d.it.unit.words.map aQ),aW (d.it.unit.kids.map aV),aW (d.it.old.map mS),aW (d.it.new.map mS),aK d.it.label,aK d.it.for_,iV d.it.start.kind,iV d.it.start.day,aK d.it.start.event,iV d.it.act,iV d.it.item,iV d.it.day,aK d.it.event,aW (d.it.by_.map N7)]];let q1:=AHeap.mk 4 (bB (ab [aZ 1 false 0 [jW [iV 0] true],AObj.map (bv av m 0) m.length,aZ 28 false 0 q,aZ 28 false 0 q]) ([]) Tr.nil);let q2:=[iV 0];exact eM Tryz.func51 fun a=>Kp 2 hB<|Mw (.opv (jW q2 true) q1<|.go 0<|.frz 3 [] .fin)<|xC rt rt (Oa (f:=ak) (l:=B) (sz:=1) (b:=8) (xs:=q2) (t:=true) (h:=q1) (by(omega):(B).length=0)) (jQ rt (tM m.length 3<|ah (f:=av) (fun _=>rfl) m 0) rt ti) a
theorem Zz(d:PDeed)(ss:List PSpan)(B:List Int)(m:List (Int×PStart))(hB:kP 52 [.ls (ss.map aJ)] (.ls (B.map ak)))(hb:0<B.length)(hb2:B.length<2^30):
    kD 51 [aU d,.ls (ss.map aJ),.ptr 0 0 0 0] (ab [ny,bm m,dx d]) (.tuple []) (ab [j8 3 0 (([0]++B).map ak).length,bm m,dx d,mG 0 ([0]++B)]):=by
  let q:=List.map ak ([0]++B);exact eM Tryz.func51 fun a=>Kp 2 hB<|M4 (.apx q) rt rt (et (by exact EV hb:List.map ak B≠[])<|fM 1 ak B fun _=>rfl) (et (et (aq q) (by(refine cK (m:=2^32) ?_ ?_ ?_<;>first|(omega)|(simp only[lA,lM,lC,lN]<;>(omega))):small (([iV 0]).length+(B.map ak).length) 8=true)) rt)<|Mg 0<|M2 (.ren [0,1,2,4,3] [1,4] []) (tN m.length<|ah (f:=av) (fun _=>rfl) m 0) (tS 1 true 0<|aX Jl<|[0]++B)<|M1 (.frz 4 []) (xC (tR 1 true 0 4<|aX Jl<|[0]++B) rt (tM m.length 4<|ah (f:=av) (fun _=>rfl) m 0) rt ti)<|Mf a
theorem Zq(d:PDeed)(ss:List PSpan)(B:List Int)(m:List (Int×PStart))(ep n:Nat)(out:List Int)(hB:kP 52 [.ls (ss.map aJ)] (.ls (B.map ak)))(hb:B.length=0):
    kD 51 [aU d,.ls (ss.map aJ),.ptr 0 0 0 0] (ab [j8 2 ep n,bm m,mG ep out,dx d]) (.tuple []) (ab [j8 2 ep n,bm m,mG ep out,dx d]):=by
  let q:=[az [iV d.act,iV d.item,iV d.day,iV d.it.kind,aW (d.it.at_.map aj),aW (d.it.to.map aj),iV d.it.where_,iV d.it.nth_,iV d.it.unit.act,iV d.it.unit.item,iV d.it.unit.n,iV d.it.unit.kind,aK d.it.unit.label,aW (d.it.unit.head.map aQ),aW (d.it.unit.words.map aQ),aW (d.it.unit.kids.map aV),aW (d.it.old.map mS),aW (d.it.new.map mS),aK d.it.label,aK d.it.for_,iV d.it.start.kind,iV d.it.start.day,aK d.it.start.event,iV d.it.act,iV d.it.item,iV d.it.day,aK d.it.event,aW (d.it.by_.map N7)]];let q1:=AHeap.mk 5 (bB (ab [aZ 1 false 0 [aI 2 ep 0 n none],AObj.map (bv av m 0) m.length,aZ 1 true ep (out.map ak),aZ 28 false 0 q,aZ 28 false 0 q]) ([2]) Tr.nil);exact eM Tryz.func51 fun a=>Kp 2 hB<|Mw (.opv (aI 2 ep 0 n none) q1<|.go 0<|.frz 4 [] .fin)<|xC rt (gT (tR 1 true ep 5<|aX Jl out) rt) (Sx (f:=ak) (l:=B) (sz:=1) (b:=8) (id:=2) (ep:=ep) (off:=0) (len:=n) (cap:=none) (h:=q1) (by(omega):(B).length=0)) (xC rt (tR 1 true ep 4<|aX Jl out) (tM m.length 4<|ah (f:=av) (fun _=>rfl) m 0) rt ti) a
theorem ZU(d:PDeed)(ss:List PSpan)(B:List Int)(m:List (Int×PStart))(ep n:Nat)(out:List Int)(hB:kP 52 [.ls (ss.map aJ)] (.ls (B.map ak)))(hb:0<B.length)(hn:n=out.length)(hn2:n+B.length<2^37):
    kD 51 [aU d,.ls (ss.map aJ),.ptr 0 0 0 0] (ab [j8 2 ep n,bm m,mG ep out,dx d]) (.tuple []) (ab [j8 2 (ep+1) (n+(B.map ak).length),bm m,mG (ep+1) (out++B),dx d]):=by
  exact eM Tryz.func51 fun a=>Kp 2 hB<|M4 (.apx<|(out++B).map ak) rt (gT (tR 1 true ep 5<|aX Jl out) rt) (et (by exact EV hb:List.map ak B≠[])<|fM 1 ak B fun _=>rfl) (et (cj (aq ep) (by(rw[lM];exact hn):n=(out.map ak).length) (by(refine cK (m:=2^37) ?_ ?_ ?_<;>first|(omega)|(simp only[lA,lM,lC,lN]<;>(omega))):small (n+(B.map ak).length) 8=true))<|cM (f:=ak) (l:=out) (ws:=B))<|K1 0 (.frz 4 []) (xC rt (tR 1 true (ep+1) 4<|aX Jl<|out++B) (tM m.length 4<|ah (f:=av) (fun _=>rfl) m 0) rt ti)<|Mf a
noncomputable def BS(m:List (Int×PStart))(ds:List PDeed)(d:PDeed):List Int:=match ce d.it.kind with|true=>cY (ao (aC m d.act) d ds)|false=>[]
noncomputable def iP(m:List (Int×PStart))(ds:List PDeed):List PDeed→List Int
  |[]=>[]
  |d::r=>BS m ds d++iP m ds r
theorem BK(s:PStart)(d:PDeed)(l:List PDeed):kP 52 [.ls ((ao s d l).map aJ)] (.ls ((cY (ao s d l)).map ak)):=by
  have hn:=jF s d l
  have h:=BT (ao s d l) (nJ hn.len (by decide))
  have e:fj (ao s d l)=ao s d l:=(LK hn).symm
  rwa[e]at h
theorem tZ{m:List (Int×PStart)}{ds r:List PDeed}{d:PDeed}(h:ce d.it.kind=true):iP m ds (d::r)=cY (ao (aC m d.act) d ds)++iP m ds r:=by simp only[iP,BS,h]
theorem JB{m:List (Int×PStart)}{ds r:List PDeed}{d:PDeed}(h:ce d.it.kind=false):iP m ds (d::r)=iP m ds r:=by simp only[iP,BS,h,rP]
theorem qN(s:PStart)(d:PDeed)(l:List PDeed):(cY (ao s d l)).length≤2^22:=by
  have h:=De (ao s d l);have:=(jF s d l).len;omega
theorem Qt{B:List Int}(h:B.isEmpty=true):B.length=0:=by rw[List.isEmpty_iff.1 h];rfl
theorem VI{B:List Int}(h:B.isEmpty=false):0<B.length:=by
  cases B with
  |nil=>cases h
  |cons a r=>exact pM _
theorem HF{B X:List Int}(h:B.isEmpty=true):B++X=X:=by rw[List.isEmpty_iff.1 h];rfl
theorem XD(s:PStart)(d:PDeed)(l:List PDeed)(m:List (Int×PStart))(hb:By (cY (ao s d l)).isEmpty true):kD 51 [aU d,.ls ((ao s d l).map aJ),.ptr 0 0 0 0] (ab [ny,bm m,dx d]) (.tuple []) (ab [ny,bm m,dx d]):=V1 d _ _ m (BK s d l) (Qt hb)
theorem XE(s:PStart)(d:PDeed)(l:List PDeed)(m:List (Int×PStart))(hb:(cY (ao s d l)).isEmpty=true):kD 51 [aU d,.ls ((ao s d l).map aJ),.ptr 0 0 0 0] (ab [ny,bm m,dx d]) (.tuple []) (ab [ny,bm m,dx d]):=V1 d _ _ m (BK s d l) (Qt hb)
theorem XC(s:PStart)(d:PDeed)(l:List PDeed)(m:List (Int×PStart))(hb:By (cY (ao s d l)).isEmpty false):kD 51 [aU d,.ls ((ao s d l).map aJ),.ptr 0 0 0 0] (ab [ny,bm m,dx d]) (.tuple []) (ab [j8 3 0 (([0]++cY (ao s d l)).map ak).length,bm m,dx d,mG 0 ([0]++cY (ao s d l))]):=Zz d _ _ m (BK s d l) (VI hb) (nJ (qN s d l) (by decide))
theorem XB(s:PStart)(d:PDeed)(l:List PDeed)(m:List (Int×PStart))(ep n:Nat)(out:List Int)(hb:By (cY (ao s d l)).isEmpty true):kD 51 [aU d,.ls ((ao s d l).map aJ),.ptr 0 0 0 0] (ab [j8 2 ep n,bm m,mG ep out,dx d]) (.tuple []) (ab [j8 2 ep n,bm m,mG ep out,dx d]):=Zq d _ _ m ep n out (BK s d l) (Qt hb)
theorem XA(s:PStart)(d:PDeed)(l:List PDeed)(m:List (Int×PStart))(ep n:Nat)(out:List Int)(hb:By (cY (ao s d l)).isEmpty false)(hn:n=out.length)(hn2:n<2^36):kD 51 [aU d,.ls ((ao s d l).map aJ),.ptr 0 0 0 0] (ab [j8 2 ep n,bm m,mG ep out,dx d]) (.tuple []) (ab [j8 2 (ep+1) (n+((cY (ao s d l)).map ak).length),bm m,mG (ep+1) (out++cY (ao s d l)),dx d]):=ZU d _ _ m ep n out (BK s d l) (VI hb) hn (by have:=qN s d l;omega)
noncomputable def bE(m:List (Int×PStart))(ds:List PDeed)(d:PDeed):Nat:=match(BS m ds d).isEmpty with|true=>0|false=>1
noncomputable def pC(m:List (Int×PStart))(ds:List PDeed):List PDeed→Nat
  |[]=>0
  |d::r=>bE m ds d+pC m ds r
theorem Zk{m:List (Int×PStart)}{ds:List PDeed}{d:PDeed}(h:ce d.it.kind=false):bE m ds d=0:=by simp only[bE,BS,h];rfl
theorem Zj{m:List (Int×PStart)}{ds:List PDeed}{d:PDeed}(h:ce d.it.kind=true)(h2:(cY (ao (aC m d.act) d ds)).isEmpty=true):bE m ds d=0:=by simp only[bE,BS,h,h2]
theorem Zw{m:List (Int×PStart)}{ds:List PDeed}{d:PDeed}(h:ce d.it.kind=true)(h2:(cY (ao (aC m d.act) d ds)).isEmpty=false):bE m ds d=1:=by simp only[bE,BS,h,h2]
/-- What the rounds are to tell: 'A' nothing yet, 'B' something. -/
structure BrkA(m:List (Int×PStart))(ds r:List PDeed):Prop where
  f:iP m ds ds=iP m ds r
  e:pC m ds ds=pC m ds r
structure BrkB(m:List (Int×PStart))(ds r:List PDeed)(ep n:Nat)(out:List Int):Prop where
  len:n=out.length
  small:out.length+2^22*r.length≤2^22*ds.length+1
  f:[0]++iP m ds ds=out++iP m ds r
  e:pC m ds ds=ep+1+pC m ds r
theorem BrkA.no{m:List (Int×PStart)}{ds r:List PDeed}{d:PDeed}(h:BrkA m ds (d::r))(ha:ce d.it.kind=false):BrkA m ds r:=⟨by rw[h.f,JB ha],by rw[h.e];simp only[pC,Zk ha,eE]⟩
theorem BrkA.nil{m:List (Int×PStart)}{ds r:List PDeed}{d:PDeed}(h:BrkA m ds (d::r))(ha:ce d.it.kind=true)(hb:(cY (ao (aC m d.act) d ds)).isEmpty=true):BrkA m ds r:=⟨by rw[h.f,tZ ha,HF hb],by rw[h.e];simp only[pC,Zj ha hb,eE]⟩
theorem BrkA.new{m:List (Int×PStart)}{ds r:List PDeed}{d:PDeed}{n:Nat}(h:BrkA m ds (d::r))(hl:(d::r).length≤ds.length)(ha:ce d.it.kind=true)(hb:(cY (ao (aC m d.act) d ds)).isEmpty=false)(hn:n=(([0]++cY (ao (aC m d.act) d ds)).map ak).length):BrkB m ds r 0 n ([0]++cY (ao (aC m d.act) d ds)):=by
  have:=qN (aC m d.act) d ds
  refine⟨by rw[hn,lM],by(rw[lA];simp only[lC,lN]at *;omega),by rw[h.f,tZ ha,md],by rw[h.e];show bE m ds d+pC m ds r=_;rw[Zw ha hb]⟩
theorem BrkB.no{m:List (Int×PStart)}{ds r:List PDeed}{d:PDeed}{ep n:Nat}{out:List Int}(h:BrkB m ds (d::r) ep n out)(ha:ce d.it.kind=false):BrkB m ds r ep n out:=⟨h.len,by have:=h.small;simp only[lC]at this;omega,by rw[h.f,JB ha],by rw[h.e];simp only[pC,Zk ha,eE]⟩
theorem BrkB.nil{m:List (Int×PStart)}{ds r:List PDeed}{d:PDeed}{ep n:Nat}{out:List Int}(h:BrkB m ds (d::r) ep n out)(ha:ce d.it.kind=true)(hb:(cY (ao (aC m d.act) d ds)).isEmpty=true):BrkB m ds r ep n out:=⟨h.len,by have:=h.small;simp only[lC]at this;omega,by rw[h.f,tZ ha,HF hb],by rw[h.e];simp only[pC,Zj ha hb,eE]⟩
theorem BrkB.new{m:List (Int×PStart)}{ds r:List PDeed}{d:PDeed}{ep n k:Nat}{out:List Int}(h:BrkB m ds (d::r) ep n out)(ha:ce d.it.kind=true)(hb:(cY (ao (aC m d.act) d ds)).isEmpty=false)(hk:k=n+((cY (ao (aC m d.act) d ds)).map ak).length):BrkB m ds r (ep+1) k (out++cY (ao (aC m d.act) d ds)):=by
  have:=qN (aC m d.act) d ds
  refine⟨by rw[hk,h.len,lM,lA],by(have:=h.small;simp only[lA,lC]at *;omega),by rw[h.f,tZ ha,md],by rw[h.e];simp only[pC,Zw ha hb];omega⟩
theorem BrkB.done{m:List (Int×PStart)}{ds:List PDeed}{ep n:Nat}{out:List Int}(h:BrkB m ds [] ep n out):ep=pC m ds ds-1∧n=([0]++iP m ds ds).length∧out=[0]++iP m ds ds:=by
  have e1:=h.f
  simp only[iP,dG]at e1
  have e2:=h.e
  simp only[pC]at e2
  exact⟨by omega,by rw[e1];exact h.len,e1.symm⟩
theorem OV(gs:List PGaz)(L:List PAct)(ds:List PDeed)(hL:L.length<10000)(hd:ds.length<10000)(ha:kP 67 [.ls (gs.map ay)] (.ls (L.map aa)))(hi:kP 68 [.ls (gs.map ay)] (.ls (ds.map aU)))(hE:iP (kN L []) ds ds=[]):
    kD 47 [.ls (gs.map ay),.func (.func 51) [] [.ptr 0 0 0 0]] (ab [ny]) (.tuple []) (ab [ny]):=by
  have hlk:=o5
  have hup:=rZ
  have hno:∀{m:List (Int×PStart)}{r:List PDeed}{d:PDeed},iP m ds (d::r)=[]→ce d.it.kind=true→(cY (ao (aC m d.act) d ds)).isEmpty=true:=fun h h2=>by
    rw[tZ h2]at h;rw[(List.append_eq_nil_iff.1 h).1];rfl
  let q1:=[jW [iV 0] true];exact eM Tryz.func47 fun a=>Kp 2 ha<|Kl 0 13 (ln aa L)<|Mg 0<|JI aa L ([]:List (Int×PStart)) [0,1,4,12,13,14] (fun a _ b=>([aW<|gs.map ay,bq (bU 51) [] [bY 0 0 0 0],AV.map 1,aW<|L.map aa,nV L.length,nV a],[aZ 1 false 0 [jW [iV 0] true],AObj.map (bv av b 0) b.length])) (fun a b=>kN L []=kN a b) (by rfl) (fun _ _ b _ _ _ c e=>Kh 0 c<|Kp 0 hi<|Kl 2 27 (ln aU ds)<|Mg 0<|Ve (0:Nat) ds () [1,4,7,26,27,28] (fun a _ _=>([bq (bU 51) [] [bY 0 0 0 0],AV.map 1,aW<|ds.map aU,aW<|ds.map aU,nV ds.length,nV a],[aZ 1 false 0 [jW [iV 0] true],AObj.map (bv av b 0) b.length])) (fun a c _=>(ds).drop a=c∧iP b ds c=[]) (fun _ a _=>a.length) (et rfl<|by(rw[←show kN L []=b from e];exact hE)) fun c e f g i=>Mc e (fun c=>have e:=eG g.1 c;have:=gd (J:=fun a _=>iP b ds a=[]) (a:=f) c g.2;Kh 0 e<|M1 (.frz 1 []) (et rt ti)<|Mf a) fun a e j=>let k:=[az [iV a.act,iV a.item,iV a.day,iV a.it.kind,aW<|a.it.at_.map aj,aW<|a.it.to.map aj,iV a.it.where_,iV a.it.nth_,iV a.it.unit.act,iV a.it.unit.item,iV a.it.unit.n,iV a.it.unit.kind,aK a.it.unit.label,aW<|a.it.unit.head.map aQ,aW<|a.it.unit.words.map aQ,aW<|a.it.unit.kids.map aV,aW<|a.it.old.map mS,aW<|a.it.new.map mS,aK a.it.label,aK a.it.for_,iV a.it.start.kind,iV a.it.start.day,aK a.it.start.event,iV a.it.act,iV a.it.item,iV a.it.day,aK a.it.event,aW<|a.it.by_.map N7]];have l:=fJ g.1 j;have:=an l;have n:=eF (enc:=aU) g.1 j;have f:=cw (J:=fun a _=>iP b ds a=[]) (a:=f) j g.2;Kt 0 l<|Mx n<|Kp 5 (jv a.it.kind)<|Mb (ce a.it.kind) (fun _=>K1 4 (.look<|az [iV (aC b a.act).kind,iV (aC b a.act).day,aK (aC b a.act).event]) (hlk b a.act)<|Kp 1 (gq (aC b a.act) a ds<|by(omega))<|M3 (.efx true (eV [])<|ab [aZ 1 false 0 q1,AObj.map (bv av b 0) b.length,aZ 28 false 0 k]) (jQ rt (tM b.length 3<|ah (f:=av) (fun _=>rfl) b 0) rt ti) (jQ (aq<|some<|aZ 28 false 0 k) (aq<|some<|AObj.map (bv av b 0) b.length) (aq<|some<|aZ 1 false 0 q1) ti) (XE (aC b a.act) a ds b<|by exact hno f (by assumption))<|Kl 0 46 (dW c)<|K1 0 (.frz 2 [1,4,7,26,27,28]) (cj (tM b.length 2<|ah (f:=av) (fun _=>rfl) b 0) rt ti)<|Mf<|i (c+1) e () (et (bJ g.1 j)<|by(have z:=f;rw[tZ (by assumption)]at z;exact(List.append_eq_nil_iff.1 z).2))<|dl j) fun _=>Kl 0 46 (dW c)<|K1 0 (.frz 2 [1,4,7,26,27,28]) (cj (tM b.length 2<|ah (f:=av) (fun _=>rfl) b 0) rt ti)<|Mf<|i (c+1) e () (et (bJ g.1 j)<|by(have z:=f;rw[JB (by assumption)]at z;exact z))<|dl j) fun a _ b _ _ c e f _ g _ i j=>Kt 0 g<|Mx i<|K1 7 (.upd (bv av (g9 c.number c.start b) 0) (g9 c.number c.start b).length) (hup b c)<|Kl 0 23 (dW a)<|K1 0 (.frz 2 [0,1,4,12,13,14]) (cj (tM (g9 c.number c.start b).length 2<|ah (f:=av) (fun _=>rfl) (g9 c.number c.start b) 0) rt ti)<|Mf<|f (g9 c.number c.start b)<|by exact j
def A9(gs:List PGaz)(L:List PAct)(x0:Nat×List PAct×List (Int×PStart)):Prop:=(L).drop x0.1=x0.2.1∧kN L []=kN x0.2.1 x0.2.2
noncomputable def qM(gs:List PGaz)(L:List PAct)(x0:Nat×List PAct×List (Int×PStart)):List AV×List AObj:=([AV.ls (gs.map ay),AV.func (Fn.func 51) [] [AV.ptr 0 0 0 0],AV.map 1,AV.ls (L.map aa),nV L.length,nV x0.1],[AObj.row 1 false 0 [AV.ps [iV 0] true],AObj.map (bv av x0.2.2 0) x0.2.2.length])
def A8(ds:List PDeed)(x0:Nat×List PAct×List (Int×PStart))(x1:Nat×List PDeed×Unit):Prop:=(ds).drop x1.1=x1.2.1∧BrkA x0.2.2 ds x1.2.1
noncomputable def qL(ds:List PDeed)(x0:Nat×List PAct×List (Int×PStart))(x1:Nat×List PDeed×Unit):List AV×List AObj:=([AV.func (Fn.func 51) [] [AV.ptr 0 0 0 0],AV.map 1,AV.ls (ds.map aU),AV.ls (ds.map aU),nV ds.length,nV x1.1],[AObj.row 1 false 0 [AV.ps [iV 0] true],AObj.map (bv av x0.2.2 0) x0.2.2.length])
def A7(ds:List PDeed)(x0:Nat×List PAct×List (Int×PStart))(x1:Nat×List PDeed×Nat×Nat×List Int):Prop:=(ds).drop x1.1=x1.2.1∧BrkB x0.2.2 ds x1.2.1 x1.2.2.1 x1.2.2.2.1 x1.2.2.2.2
noncomputable def A6(ds:List PDeed)(x0:Nat×List PAct×List (Int×PStart))(x1:Nat×List PDeed×Nat×Nat×List Int):List AV×List AObj:=([AV.func (Fn.func 51) [] [AV.ptr 0 0 0 0],AV.map 1,AV.ls (ds.map aU),AV.ls (ds.map aU),nV ds.length,nV x1.1],[AObj.row 1 false 0 [AV.slice 2 x1.2.2.1 0 x1.2.2.2.1 none],AObj.map (bv av x0.2.2 0) x0.2.2.length,AObj.row 1 true x1.2.2.1 (x1.2.2.2.2.map ak)])
theorem OK(gs:List PGaz)(L:List PAct)(ds:List PDeed)(hL:L.length<10000)(hd:ds.length<10000)(ha:kP 67 [.ls (gs.map ay)] (.ls (L.map aa)))(hi:kP 68 [.ls (gs.map ay)] (.ls (ds.map aU)))(hE:iP (kN L []) ds ds≠[]):
    kD 47 [.ls (gs.map ay),.func (.func 51) [] [.ptr 0 0 0 0]] (ab [ny]) (.tuple []) (ab [j8 1 (pC (kN L []) ds ds-1) ([0]++iP (kN L []) ds ds).length,mG (pC (kN L []) ds ds-1) ([0]++iP (kN L []) ds ds)]):=by
  have hlk:=o5
  have hup:=rZ
  let q9:=eV [];let q11:=[jW [iV 0] true];exact O3 Tryz.func47<|Kp 2 ha<|Kl 0 13 (ln aa L)<|Mg 0<|ML (Nat×List PAct×List (Int×PStart)) [0,1,4,12,13,14] (qM gs L) (A9 gs L) (fun a=>a.2.1.length) (0,L,[]) (aq<|qM gs L (0,L,[])) (et (rfl:List.drop 0 (L)=L) (by rfl:(kN L []=kN L []))) fun a b c=>let d:=some<|AObj.map (bv av a.2.2 0) a.2.2.length;Mi (fun a b=>kN L []=kN a b) aa b (fun _ b c=>Kh 0 b<|Kp 0 hi<|Kl 2 27 (ln aU ds)<|Mg 0<|MM (Nat×List PDeed×Unit) (Nat×List PDeed×Nat×Nat×List Int) [1,4,7,26,27,28] (qL ds a) (A6 ds a) (A8 ds a) (A7 ds a) (fun a=>a.2.1.length) (fun a=>a.2.1.length) (.inl (0,ds,())) (aq<|qL ds a (0,ds,())) (et (rfl:List.drop 0 (ds)=ds) (by(exact⟨rfl,rfl⟩):(BrkA a.2.2 ds ds))) (fun b e f=>Mc b.2.1 (fun d=>have f:=eG e.1 d;have b:=gd (J:=fun b _=>BrkA a.2.2 ds b) (a:=b.2.2) d e.2;Kh 0 f<|Mw .abs (by exact hE (by rw[show kN L []=a.2.2 from c];exact b.f):False)) fun c g h=>let i:=[az [iV c.act,iV c.item,iV c.day,iV c.it.kind,aW<|c.it.at_.map aj,aW<|c.it.to.map aj,iV c.it.where_,iV c.it.nth_,iV c.it.unit.act,iV c.it.unit.item,iV c.it.unit.n,iV c.it.unit.kind,aK c.it.unit.label,aW<|c.it.unit.head.map aQ,aW<|c.it.unit.words.map aQ,aW<|c.it.unit.kids.map aV,aW<|c.it.old.map mS,aW<|c.it.new.map mS,aK c.it.label,aK c.it.for_,iV c.it.start.kind,iV c.it.start.day,aK c.it.start.event,iV c.it.act,iV c.it.item,iV c.it.day,aK c.it.event,aW<|c.it.by_.map N7]];let j:=az [iV (aC a.2.2 c.act).kind,iV (aC a.2.2 c.act).day,aK (aC a.2.2 c.act).event];let k:=List.map ak<|[0]++cY (ao (aC a.2.2 c.act) c ds);have l:=fJ e.1 h;have:=an l;have m:=eF (enc:=aU) e.1 h;have n:=cw (J:=fun b _=>BrkA a.2.2 ds b) (a:=b.2.2) h e.2;Kt 0 l<|Mx m<|Kp 5 (jv c.it.kind)<|Mb (ce c.it.kind) (fun _=>Ms (cY<|ao (aC a.2.2 c.act) c ds).isEmpty (fun k=>K1 4 (.look j) (hlk a.2.2 c.act)<|Kp 1 (gq (aC a.2.2 c.act) c ds<|by(omega))<|M3 (.efx true q9<|ab [aZ 1 false 0 q11,AObj.map (bv av a.2.2 0) a.2.2.length,aZ 28 false 0 i]) (jQ rt (tM a.2.2.length 3<|ah (f:=av) (fun _=>rfl) a.2.2 0) rt ti) (jQ (aq<|some<|aZ 28 false 0 i) (aq d) (aq<|some<|aZ 1 false 0 q11) ti) (XD (aC a.2.2 c.act) c ds a.2.2 k)<|Kl 0 46 (dW b.1)<|K1 0 (.frz 2 [1,4,7,26,27,28]) (cj (tM a.2.2.length 2<|ah (f:=av) (fun _=>rfl) a.2.2 0) rt ti)<|Mf<|f (.inl (b.1+1,g,())) (et (bJ e.1 h) (by exact n.nil (by assumption) (by assumption):(BrkA a.2.2 ds g)))<|dl h) fun d=>K1 4 (.look j) (hlk a.2.2 c.act)<|Kp 1 (gq (aC a.2.2 c.act) c ds<|by(omega))<|M3 (.efx false q9<|ab [aZ 1 false 0 [aI 3 0 0 k.length none],AObj.map (bv av a.2.2 0) a.2.2.length,aZ 28 false 0 i,aZ 1 true 0 k]) (jQ rt (tM a.2.2.length 3<|ah (f:=av) (fun _=>rfl) a.2.2 0) rt ti) ti (XC (aC a.2.2 c.act) c ds a.2.2 d)<|Kl 0 46 (dW b.1)<|Mg 0<|M2 (.ren [0,1,3,2] [1,3] [1,4,7,26,27,28]) (tN a.2.2.length<|ah (f:=av) (fun _=>rfl) a.2.2 0) (tS 1 true 0<|aX Jl<|[0]++cY (ao (aC a.2.2 c.act) c ds))<|M1 (.frz 3 [1,4,7,26,27,28]) (jQ (tR 1 true 0 3<|aX Jl<|[0]++cY (ao (aC a.2.2 c.act) c ds)) (tM a.2.2.length 3<|ah (f:=av) (fun _=>rfl) a.2.2 0) rt ti)<|Mf<|f (.inr (b.1+1,g,(0,k.length,[0]++cY (ao (aC a.2.2 c.act) c ds)))) (et (bJ e.1 h) (by exact n.new (Ip (e.1.trans h)) (by assumption) (by assumption) rfl:(BrkB a.2.2 ds g (0:Nat) (([(0:Int)]++cY (ao (aC a.2.2 c.act) c ds)).map ak).length ([(0:Int)]++cY (ao (aC a.2.2 c.act) c ds)))))<|dl h) fun _=>Kl 0 46 (dW b.1)<|K1 0 (.frz 2 [1,4,7,26,27,28]) (cj (tM a.2.2.length 2<|ah (f:=av) (fun _=>rfl) a.2.2 0) rt ti)<|Mf<|f (.inl (b.1+1,g,())) (et (bJ e.1 h) (by exact n.no (by assumption):(BrkA a.2.2 ds g)))<|dl h) fun b e f=>let g:=[aI 2 b.2.2.1 0 b.2.2.2.1 none];let h:=List.map ak b.2.2.2.2;Mc b.2.1 (fun d=>have f:=eG e.1 d;have d:=gd (J:=fun b c=>BrkB a.2.2 ds b c.1 c.2.1 c.2.2) (a:=b.2.2) d e.2;Kh 0 f<|M2 (.ren [0,2,1] [2,1] []) (tS 1 true b.2.2.1<|aX Jl b.2.2.2.2) (tN a.2.2.length<|ah (f:=av) (fun _=>rfl) a.2.2 0)<|M1 (.frz 2 []) (cj (tR 1 true b.2.2.1 2<|aX Jl b.2.2.2.2) rt ti)<|Mf<|et (aq q9) (by(have q:=d.done;rw[show kN L []=a.2.2 from c,q.1,q.2.1,q.2.2]):(ab [AObj.row 1 false 0 [AV.slice 1 b.2.2.1 0 b.2.2.2.1 none],AObj.row 1 true b.2.2.1 (b.2.2.2.2.map ak)])=(ab [j8 1 (pC (kN L []) ds ds-1) ([0]++iP (kN L []) ds ds).length,mG (pC (kN L []) ds ds-1) ([0]++iP (kN L []) ds ds)]))) fun c i j=>let k:=[az [iV c.act,iV c.item,iV c.day,iV c.it.kind,aW<|c.it.at_.map aj,aW<|c.it.to.map aj,iV c.it.where_,iV c.it.nth_,iV c.it.unit.act,iV c.it.unit.item,iV c.it.unit.n,iV c.it.unit.kind,aK c.it.unit.label,aW<|c.it.unit.head.map aQ,aW<|c.it.unit.words.map aQ,aW<|c.it.unit.kids.map aV,aW<|c.it.old.map mS,aW<|c.it.new.map mS,aK c.it.label,aK c.it.for_,iV c.it.start.kind,iV c.it.start.day,aK c.it.start.event,iV c.it.act,iV c.it.item,iV c.it.day,aK c.it.event,aW<|c.it.by_.map N7]];let l:=az [iV (aC a.2.2 c.act).kind,iV (aC a.2.2 c.act).day,aK (aC a.2.2 c.act).event];let m:=List.map ak<|cY<|ao (aC a.2.2 c.act) c ds;have n:=fJ e.1 j;have:=an n;have o:=eF (enc:=aU) e.1 j;have p:=cw (J:=fun b c=>BrkB a.2.2 ds b c.1 c.2.1 c.2.2) (a:=b.2.2) j e.2;Kt 0 n<|Mx o<|Kp 5 (jv c.it.kind)<|Mb (ce c.it.kind) (fun _=>Ms (cY<|ao (aC a.2.2 c.act) c ds).isEmpty (fun m=>K1 4 (.look l) (hlk a.2.2 c.act)<|Kp 1 (gq (aC a.2.2 c.act) c ds<|by(omega))<|M3 (.efx true q9<|ab [aZ 1 false 0 g,AObj.map (bv av a.2.2 0) a.2.2.length,aZ 1 true b.2.2.1 h,aZ 28 false 0 k]) (xC rt (tR 1 true b.2.2.1 4<|aX Jl b.2.2.2.2) (tM a.2.2.length 4<|ah (f:=av) (fun _=>rfl) a.2.2 0) rt ti) (xC (aq<|some<|aZ 28 false 0 k) (aq<|some<|aZ 1 true b.2.2.1 h) (aq d) (aq<|some<|aZ 1 false 0 g) ti) (XB (aC a.2.2 c.act) c ds a.2.2 b.2.2.1 b.2.2.2.1 b.2.2.2.2 m)<|Kl 0 46 (dW b.1)<|K1 0 (.frz 3 [1,4,7,26,27,28]) (jQ (tR 1 true b.2.2.1 3<|aX Jl b.2.2.2.2) (tM a.2.2.length 3<|ah (f:=av) (fun _=>rfl) a.2.2 0) rt ti)<|Mf<|f (.inr (b.1+1,i,(b.2.2.1,b.2.2.2.1,b.2.2.2.2))) (et (bJ e.1 j) (by exact p.nil (by assumption) (by assumption):(BrkB a.2.2 ds i b.2.2.1 b.2.2.2.1 b.2.2.2.2)))<|dl j) fun d=>K1 4 (.look l) (hlk a.2.2 c.act)<|Kp 1 (gq (aC a.2.2 c.act) c ds<|by(omega))<|M3 (.efx false q9<|ab [aZ 1 false 0 [aI 2 (b.2.2.1+1) 0 (b.2.2.2.1+m.length) none],AObj.map (bv av a.2.2 0) a.2.2.length,aZ 1 true (b.2.2.1+1)<|(b.2.2.2.2++cY (ao (aC a.2.2 c.act) c ds)).map ak,aZ 28 false 0 k]) (xC rt (tR 1 true b.2.2.1 4<|aX Jl b.2.2.2.2) (tM a.2.2.length 4<|ah (f:=av) (fun _=>rfl) a.2.2 0) rt ti) ti (XA (aC a.2.2 c.act) c ds a.2.2 b.2.2.1 b.2.2.2.1 b.2.2.2.2 d (by exact p.len)<|by(have z:=p.small;have z2:=p.len;have z3:=Ip (e.1.trans j);simp only[lC]at z z3;omega))<|Kl 0 46 (dW b.1)<|K1 0 (.frz 3 [1,4,7,26,27,28]) (jQ (tR 1 true (b.2.2.1+1) 3<|aX Jl<|b.2.2.2.2++cY (ao (aC a.2.2 c.act) c ds)) (tM a.2.2.length 3<|ah (f:=av) (fun _=>rfl) a.2.2 0) rt ti)<|Mf<|f (.inr (b.1+1,i,(b.2.2.1+1,b.2.2.2.1+m.length,b.2.2.2.2++cY (ao (aC a.2.2 c.act) c ds)))) (et (bJ e.1 j) (by exact p.new (by assumption) (by assumption) rfl:(BrkB a.2.2 ds i (b.2.2.1+1) (b.2.2.2.1+m.length) (b.2.2.2.2++cY (ao (aC a.2.2 c.act) c ds)))))<|dl j) fun _=>Kl 0 46 (dW b.1)<|K1 0 (.frz 3 [1,4,7,26,27,28]) (jQ (tR 1 true b.2.2.1 3<|aX Jl b.2.2.2.2) (tM a.2.2.length 3<|ah (f:=av) (fun _=>rfl) a.2.2 0) rt ti)<|Mf<|f (.inr (b.1+1,i,(b.2.2.1,b.2.2.2.1,b.2.2.2.2))) (et (bJ e.1 j) (by exact p.no (by assumption):(BrkB a.2.2 ds i b.2.2.1 b.2.2.2.1 b.2.2.2.2)))<|dl j) fun d e f g _ h i=>Kt 0 g<|Mx h<|K1 7 (.upd (bv av (g9 d.number d.start a.2.2) 0) (g9 d.number d.start a.2.2).length) (hup a.2.2 d)<|Kl 0 23 (dW a.1)<|K1 0 (.frz 2 [0,1,4,12,13,14]) (cj (tM (g9 d.number d.start a.2.2).length 2<|ah (f:=av) (fun _=>rfl) (g9 d.number d.start a.2.2) 0) rt ti)<|Mf<|c (a.1+1,e,g9 d.number d.start a.2.2) (et (bJ b.1 f) (by exact i:(kN L []=kN e (g9 d.number d.start a.2.2))))<|dl f
theorem Gp(zs:List Int)(ep n:Nat)(hn:n=zs.length)(hz:0<zs.length)(hb:zs.length<2^40):
    kD 53 [.slice 1 ep 0 n none] (ab [j8 1 ep n,mG ep zs]) (.tuple []) (ab [j8 1 ep n,mG ep (bX zs)]):=by
  subst hn
  exact(sZ (Go.Proofs.Tryz.lsort.f5.enters rfl) (fun blk off cap zs w hH hb hs=>Go.Proofs.AnyM.slices_Sort_int Go.Proofs.Tryz.lsort blk off cap zs w hH hb hs) zs (h:=ab [j8 1 ep zs.length,mG ep zs]) (id:=1) (op:=true) rfl hz (by omega)).mono fun v h ⟨h3,h4⟩=>⟨h3,h4.trans rfl⟩
theorem Az(zs:List Int)(ep n:Nat)(hn:n=zs.length)(hz:0<zs.length)(hb:zs.length<2^40):
    kD 54 [.slice 1 ep 0 n none] (ab [j8 1 ep n,mG ep zs]) (.slice 1 ep 0 (am zs).length none) (ab [j8 1 ep n,mG ep (am zs++List.replicate (zs.length-(am zs).length) 0)]):=by
  subst hn
  exact(ox (Go.Proofs.Tryz.lcompact.f43.enters rfl) (fun blk off cap zs w hH hb hs=>Go.Proofs.AnyG.slices_Compact_int Go.Proofs.Tryz.lcompact blk off cap zs w hH hb hs) zs (h:=ab [j8 1 ep zs.length,mG ep zs]) (id:=1) (op:=true) rfl hz (by omega)).mono fun v h ⟨h3,h4⟩=>⟨h3,h4.trans rfl⟩
noncomputable def Vr:Option (AV×AHeap)→Bool
  |some (.tuple [],_)=>true
  |_=>false
noncomputable def Vp:Option (AV×AHeap)→Bool
  |some (.ps [.int .i64 n] true,_)=>al n 0
  |_=>false
theorem U7{f:FuncId}{a:List AV}(k:Nat)(ht:ax a=0)(h:Vr (fL C k f a AHeap.none)=true):kP f a (.tuple []):=by
  cases hx:fL C k f a AHeap.none with
  |none=>rw[hx]at h;cases h
  | some r=>
    obtain⟨v,h1⟩:=r
    rw[hx]at h
    have e:v=.tuple []:=by
      unfold Vr at h
      split at h
      · rename_i q;cases q;rfl
      · cases h
    subst e
    exact kL fV ht rfl ((aL.of (ev k) hx).mono fun v1 _ e=>e.1)
theorem U6{f:FuncId}{a:List AV}(k:Nat)(ht:ax a=0)(h:Vp (fL C k f a AHeap.none)=true):aA Tryz.prog G f a (.ps [.int .i64 0] true):=by
  cases hx:fL C k f a AHeap.none with
  |none=>rw[hx]at h;cases h
  | some r=>
    obtain⟨v,h1⟩:=r
    rw[hx]at h
    have e:v=.ps [.int .i64 0] true:=by
      unfold Vp at h
      split at h
      · rename_i q;cases q;rw[kV h]
      · cases h
    subst e
    exact kL fV ht rfl ((aL.of (ev k) hx).mono fun v1 _ e=>e.1)
theorem Pd:kP 53 [.ps [iV 0] true] (.tuple []):=U7 60 rfl (by kernel_rfl)
theorem Hs:aA Tryz.prog G 54 [.ps [.int .i64 0] true] (.ps [.int .i64 0] true):=U6 60 rfl (by kernel_rfl)
theorem aan(gs:List PGaz)(hc:kD 47 [.ls (gs.map ay),.func (.func 51) [] [.ptr 0 0 0 0]] (ab [ny]) (.tuple []) (ab [ny])):kP 31 [.ls (gs.map ay)] (.ls (([0]:List Int).map ak)):=by
  exact bC Tryz.func31<|Ke 5 hc<|Kp 0 Pd<|Kp 0 Hs<|Kf 0 (eS [iV 0] _<|by rfl:Le _ (AV.ps [iV 0] true))
theorem rK(X:List Int):(bX X).length=X.length:=(List.mergeSort_perm X _).length_eq
theorem aam(gs:List PGaz)(X:List Int)(k:Nat)(hz:0<X.length)(hb:X.length<2^40)(hc:kD 47 [.ls (gs.map ay),.func (.func 51) [] [.ptr 0 0 0 0]] (ab [ny]) (.tuple []) (ab [j8 1 k X.length,mG k X])):kP 31 [.ls (gs.map ay)] (.ls ((am (bX X)).map ak)):=by
  have hs:=rK X
  have rr0 b' (h:((am (bX X)).map ak)=b':=by(rw[List.take_left'];rfl)):=h;exact bC Tryz.func31<|Ke 5 hc<|Ke 0 (Gp X k X.length (by(omega)) hz hb)<|Ke 0 (Az (bX X) k X.length (by(omega)) (by(omega))<|by(omega))<|Mg 0<|M2 (.fsl 0 [] 2<|((am (bX X)++List.replicate ((bX X).length -(am<|bX X).length) 0).take (am<|bX X).length).map ak) ti (cj (aq k) (wA (f:=ak) (l:=am (bX X)++List.replicate ((bX X).length -(am<|bX X).length) 0) (n:=(am<|bX X).length))<|aX Jl<|(am (bX X)++List.replicate ((bX X).length -(am<|bX X).length) 0).take (am<|bX X).length)<|Ml 2 (eS (((am (bX X)++List.replicate ((bX X).length -(am<|bX X).length) 0).take (am<|bX X).length).map ak) false<|aX Jl<|(am (bX X)++List.replicate ((bX X).length -(am<|bX X).length) 0).take (am<|bX X).length)<|Mf<|b6<|rr0<|((am (bX X)++List.replicate ((bX X).length -(am<|bX X).length) 0).take (am<|bX X).length).map ak
theorem Hr:am (bX [0])=[0]:=by
  have e:bX [0]=[0]:=List.mergeSort_singleton 0
  rw[e];rfl
/-- The program's days: in order, each once. -/
theorem Zx(gs:List PGaz)(L:List PAct)(ds:List PDeed)(hL:L.length<10000)(hd:ds.length<10000)(ha:kP 67 [.ls (gs.map ay)] (.ls (L.map aa)))(hi:kP 68 [.ls (gs.map ay)] (.ls (ds.map aU))):
    kP 31 [.ls (gs.map ay)] (.ls ((am (bX ([0]++iP (kN L []) ds ds))).map ak)):=by
  by_cases hE:iP (kN L []) ds ds=[]
  · have h:=aan gs (OV gs L ds hL hd ha hi hE)
    rw[hE]
    have e:am (bX ([0]++[]))=[0]:=Hr
    rw[e];exact h
  · have hl:∀(r:List PDeed),(iP (kN L []) ds r).length≤2^22*r.length:=by
      intro r
      induction r with
      |nil=>exact ar _
      | cons d r ih=>
        have h1:(BS (kN L []) ds d).length≤2^22:=by
          unfold BS
          cases ce d.it.kind
          · exact bH _
          · exact qN _ _ _
        simp only[iP,lA,lC];omega
    have:=hl ds
    exact aam gs ([0]++iP (kN L []) ds ds) (pC (kN L []) ds ds-1) (by simp) (by rw[lA];simp only[lC,lN];omega) (OK gs L ds hL hd ha hi hE)
/-- What the amendments' days begin and end; in order, each once. -/
noncomputable def ZD(gs:List PGaz):List Int:=iP (kN (gC gs) []) (pz gs) (pz gs)
noncomputable def kj(gs:List PGaz):List Int:=am (bX ([0]++ZD gs))
theorem OkG.brk{gs:List PGaz}(h:OkG gs):kP 31 [.ls (gs.map ay)] (.ls ((kj gs).map ak)):=by
  have hl:=h.lens
  exact Zx gs _ _ (by omega) (by omega) h.all.1 h.all.2
theorem HN:∀{l:List PSpan},(∀s,s∈l→0≤s.from_∧s.from_<s.to∧s.to≤1048577)→∀z,z∈cY l→0≤z∧z<1048577
  | s::r,h,z,hz=>by
    have hs:=h s (eT ..)
    rw[cY]at hz
    rcases iR.1 hz with q|q
    · unfold HO at q
      cases e:au s.to 1048577<;>rw[e]at q
      · simp at q;omega
      · have:=an e;simp at q;omega
    · exact HN (fun x hx=>h x (e9 _ hx)) z q
theorem L4(m:List (Int×PStart))(ds:List PDeed):∀(r:List PDeed)(z:Int),z∈iP m ds r→0≤z∧z<1048577
  | d::r,z,hz=>by
    rw[iP]at hz
    rcases iR.1 hz with q|q
    · unfold BS at q
      cases e:ce d.it.kind<;>rw[e]at q
      · cases q
      · exact HN (jF _ _ _).ok z q
    · exact L4 m ds r z q
theorem oC{l:List Int}{z:Int}:z∈am (bX l)↔z∈l:=((tQ (oF l)).2 z).trans (je l).mem_iff
theorem vb(l:List Int):(am (bX l)).Pairwise (fun a b=>a<b):=(tQ (oF l)).1
theorem yh(gs:List PGaz):∀z,z∈kj gs→0≤z∧z<1048577:=fun z hz=>by
  rcases iR.1 (oC.1 hz)with q|q
  · rw[nN]at q;omega
  · exact L4 _ _ _ z q
theorem BX(gs:List PGaz):(0:Int)∈kj gs:=oC.2 (pd _ (nN.2 rfl))
theorem XF{gs:List PGaz}{z:Int}(h:z∈ZD gs):z∈kj gs:=oC.2 (pO _ h)
theorem QT{l:List Int}(hp:l.Pairwise (fun a b=>a<b))(hb:∀z,z∈l→0≤z)(h0:(0:Int)∈l):∃r,l=0::r:=by
  cases l with
  |nil=>cases h0
  | cons a r=>
    rcases fw.1 h0 with q|q
    · exact⟨r,by rw[←q]⟩
    · have:=(jU.1 hp).1 0 q
      have:=hb a (eT ..)
      omega
theorem zj:∀{l:List Int}{lo hi:Int},l.Pairwise (fun a b=>a<b)→(∀z,z∈l→lo≤z∧z<hi)→lo≤hi→(Int.ofNat l.length)≤hi-lo
  |[],lo,hi,_,_,h=>by simp only[lN,oN];omega
  | a::r,lo,hi,hp,hb,h=>by
    obtain⟨h1,h2⟩:=jU.1 hp
    obtain⟨q1,q2⟩:=hb a (eT ..)
    have:=zj (lo:=a+1) (hi:=hi) h2 (fun z hz=>⟨by have:=h1 z hz;omega,(hb z (e9 _ hz)).2⟩) (by omega)
    simp only[lC,oN]at *;omega
theorem uO(gs:List PGaz):(kj gs).length≤1048577:=by
  have:=zj (vb _) (yh gs) (by omega)
  simp only[oN]at this
  show(am (bX ([0]++ZD gs))).length≤_
  omega
theorem L6:∀{l:List PSpan}{s:PSpan},s∈l→s.from_∈cY l∧(au s.to 1048577=true→s.to∈cY l)
  | a::r,s,h=>by
    rw[cY]
    rcases fw.1 h with rfl|h
    · cases e:au s.to 1048577 with
      |true=>rw[BV e];simp
      |false=>rw[BU e];simp
    · obtain⟨k1,k2⟩:=L6 h
      exact⟨pO _ k1,fun e=>pO _ (k2 e)⟩
/-- Between boundaries nothing changes: of spans, of what is in force, of the book. -/
theorem CN{l:List PSpan}(h:NrmS l){x y d:Int}(hz:∀z,z∈cY l→z≤x∨y≤z)(hy:y≤1048577)(h1:x≤d)(h2:d<y):gL l d=gL l x:=by
  rw[EJ h,EJ h]
  have key:∀s,s∈l→((s.from_≤d∧d<s.to)↔(s.from_≤x∧x<s.to)):=fun s hs=>by
    obtain⟨k1,k2⟩:=L6 hs
    have k3:=hz _ k1
    have k4:=(h.ok s hs).2.2
    cases e:au s.to 1048577 with
    |true=>have:=hz _ (k2 e);omega
    |false=>have:=aF e;omega
  rw[vU,gZ,gZ]
  grind
theorem CA(p:aO)(m:List (Int×PStart))(ds:List PDeed){x y d:Int}(hy:y≤1048577)(h1:x≤d)(h2:d<y):∀(r:List PDeed),(∀z,z∈iP m ds r→z≤x∨y≤z)→qe d p m ds r=qe x p m ds r
  |[],_=>rfl
  | e::r,h=>by
    have ih:=CA p m ds hy h1 h2 r fun z hz=>h z (by rw[iP];exact pO _ hz)
    cases ha:ce e.it.kind with
    |false=>rw[F6 ha,F6 ha,ih]
    | true=>
      have hb:wL d p m ds e=wL x p m ds e:=by
        unfold wL
        rw[CN (jF _ _ _) (fun z hz=>h z (by rw[tZ ha];exact pd _ hz)) hy h1 h2]
      cases q:wL x p m ds e with
      |true=>rw[F5 ha q,F5 ha (hb.trans q),ih]
      |false=>rw[Cu q,Cu (hb.trans q),ih]
theorem K8(p:aO)(m:List (Int×PStart))(ds:List PDeed){d:Int}(h:d<0∨1048576<d):∀(r:List PDeed),qe d p m ds r=[]
  |[]=>rfl
  | e::r=>by
    have ih:=K8 p m ds h r
    have hb:wL d p m ds e=false:=by
      unfold wL
      rw[Qv (jF _ _ _) h,wy]
    rw[Cu hb,ih]
theorem uP(gs:List PGaz)(p:aO){d:Int}(h:d<0∨1048576<d):jZ d p gs=vY:=by
  unfold jZ
  rw[show qA d p gs=[]from K8 p _ _ h _];rfl
theorem BW(gs:List PGaz)(p:aO){x y d:Int}(hz:∀z,z∈kj gs→z≤x∨y≤z)(hy:y≤1048577)(h1:x≤d)(h2:d<y):jZ d p gs=jZ x p gs:=by
  unfold jZ
  rw[show qA d p gs=qA x p gs from CA p _ _ hy h1 h2 _ fun z h=>hz z (XF h)]
/-- Two lists' books differ on a day; the days, as spans. -/
noncomputable def rH(a b:List PGaz)(p:aO)(d:Int):Bool:=aw (Ao (jZ d p a) (jZ d p b))
noncomputable def EE(a b:List PGaz):List Int:=am (bX (kj a++kj b))
noncomputable def EG(a b:List PGaz)(p:aO):List PSpan:=fj (dg (rH a b p) (EE a b++[1048577]))
theorem R9{a b:List PGaz}{z:Int}(h:z∈kj a):z∈EE a b:=oC.2 (pd _ h)
theorem ZX{a b:List PGaz}{z:Int}(h:z∈kj b):z∈EE a b:=oC.2 (pO _ h)
theorem Jr(a b:List PGaz):∀z,z∈EE a b→0≤z∧z<1048577:=fun z hz=>by
  rcases iR.1 (oC.1 hz)with q|q
  · exact yh a z q
  · exact yh b z q
theorem L2(a b:List PGaz):(EE a b).length≤1048577:=by
  have:=zj (vb _) (Jr a b) (by omega)
  simp only[oN]at this
  show(am (bX (kj a++kj b))).length≤_
  omega
theorem Ny(a b:List PGaz)(p:aO){x y:Int}(hz:∀z,z∈EE a b++[1048577]→z≤x∨y≤z)(d:Int)(h1:x≤d)(h2:d<y):rH a b p d=rH a b p x:=by
  have k0:=hz 0 (pd _ (R9 (BX a)))
  have k1:=hz 1048577 (pO _ (nN.2 rfl))
  unfold rH
  by_cases hx:x<0∨1048576<x
  · have hd:d<0∨1048576<d:=by omega
    rw[uP a p hd,uP b p hd,uP a p hx,uP b p hx]
  · have hy:y≤1048577:=by omega
    rw[BW a p (fun z h=>hz z (pd _ (R9 h))) hy h1 h2,BW b p (fun z h=>hz z (pd _ (ZX h))) hy h1 h2]
theorem Gb:∀(r:List Int)(a F:Int),qn a (r++[F])=F
  |[],_,_=>rfl
  |c::r,_,F=>Gb r c F
theorem U8(a b:List PGaz)(p:aO)(d:Int):BL (EG a b p) d=(Ea d&&rH a b p d):=by
  obtain⟨r,hr⟩:=QT (vb (kj a++kj b)) (fun z hz=>(Jr a b z hz).1) (R9 (BX a))
  have hr:EE a b=0::r:=hr
  have hp:(EE a b++[1048577]).Pairwise (fun a b=>a<b):=List.pairwise_append.2 ⟨vb _,List.pairwise_singleton ..,fun x hx y hy=>by rw[nN.1 hy];exact(Jr a b x hx).2⟩
  have z:=zJ (g:=rH a b p) (C:=EE a b++[1048577]) (fun x y hz d h1 h2=>Ny a b p hz d h1 h2) (r++[1048577]) 0 (by rw[hr]at hp;exact hp) (fun z hz=>by
    rw[hr]at hz
    rcases fw.1 hz with q|q
    · exact .inl (by omega)
    · exact .inr q) d
  rw[Gb]at z
  have e:EG a b p=fj (dg (rH a b p) (0::(r++[1048577]))):=by unfold EG;rw[hr];rfl
  rw[yw,e,vE,z]
  unfold Ea
  grind
/-- The changed days before a day. -/
def Cl(n:Int):List PSpan→List PSpan
  |[]=>[]
  |s::r=>match au s.from_ (vV s.to n)with|true=>⟨s.from_,vV s.to n⟩::Cl n r|false=>Cl n r
theorem KI{n:Int}{s:PSpan}{r:List PSpan}(h:au s.from_ (vV s.to n)=true):Cl n (s::r)=⟨s.from_,vV s.to n⟩::Cl n r:=by simp only[Cl,h]
theorem KL{n:Int}{s:PSpan}{r:List PSpan}(h:au s.from_ (vV s.to n)=false):Cl n (s::r)=Cl n r:=by simp only[Cl,h]
theorem KN(n:Int):∀(l:List PSpan),(Cl n l).length≤l.length
  |[]=>ar _
  | s::r=>by
    have:=KN n r
    cases h:au s.from_ (vV s.to n)with
    |true=>rw[KI h];simp only[lC];omega
    |false=>rw[KL h];simp only[lC];omega
theorem KM(n:Int):∀(l:List PSpan)(d:Int),memB (Cl n l) d=(memB l d&&decide (d<n))
  |[],d=>by simp[Cl,memB]
  | s::r,d=>by
    have ih:=KM n r d
    have hm:=zD s.to n
    rw[dw]
    cases h:au s.from_ (vV s.to n)with
    |true=>rw[KI h,dw,ih];grind
    |false=>have:=aF h;rw[KL h,ih];grind
theorem Wx(n:Int)(l:List PSpan)(d:Int):BL (Cl n l) d=(BL l d&&decide (d<n)):=by
  rw[yw,yw,KM,Bool.and_assoc]
theorem Ws(a b:Nat):vV (.ofNat a) (.ofNat b)=.ofNat (Nat.min a b):=by
  rw[zD,show Nat.min a b=min a b from rfl];simp only[oN];omega
theorem YC{n:Nat}(h0:0<n)(hn:n<2^30):ec (wN 1 8 (iV 0) (ab []) (some .nils) (some (nV n)))=some (.val (.slice 0 0 0 n none) (ab [.row 1 true 0 (List.replicate n (iV 0))])):=by
  have e1:small n 8=true:=cK (m:=2^30) (by omega) (by decide) (by decide)
  have e2:Nat.ble 1 n=true:=qX h0
  have e3:(List.replicate n (AV.int .i64 0)).length=n:=pe ..
  unfold wN Gx
  simp only[e1,e2,wx,show Nat.ble 1 1=true from rfl,show dc 1 [AV.int .i64 0]=true from rfl]
  unfold gH
  rw[e3];rfl
theorem Ah(gs:List PGaz)(n:Nat)(hn:n≤gs.length)(hl:gs.length<2^30):kP 41 [nV n,.ls (gs.map ay)] (.ls ((gs.take n).map ay)):=by
  have e:Nat.min (Nat.max n 0) gs.length=n:=by show min (max n 0) gs.length=n;omega
  have rr0 b' (h:((gs.take n).map ay)=b':=by(rw[e])):=h;exact bC Tryz.func41<|Kl 3 7 (m9 (k:=IntKind.i64)<|Qj n 0)<|Kl 1 9 (ln ay gs)<|Kl 0 10 (m9 (k:=IntKind.i64)<|Ws (n.max 0) gs.length)<|M1 (.slp<|(gs.take<|(n.max 0).min gs.length).map ay) (cj (hM 4 ay gs fun _=>rfl) (et (oA:0≤(n.max 0).min gs.length) (by(simp only[oN,lM,lS]at *;omega):(n.max 0).min gs.length≤(gs.map ay).length))<|Vm (f:=ay) (l:=gs) (h:=(n.max 0).min gs.length))<|Kf 0<|b6<|rr0<|(gs.take<|(n.max 0).min gs.length).map ay
theorem uz(gs:List PGaz)(ok:OkG gs)(n:Nat)(day:Int)(p:aO)(hn:n≤gs.length):kP 19 [nV n,iV day,.str p,.ls (gs.map ay)] (eU (jZ day p (gs.take n))):=by
  have hl:=ok.len
  have hf:=Ah gs n hn (by omega)
  have hb:=(ok.sub (hs:=gs.take n) (by rw[pS];omega) fun g hg=>l0 hg).book day p
  exact bC Tryz.func19<|Kp 4 hf<|Mp hb<|Kf 0<|bd<|az [iV (jZ day p<|gs.take n).act,iV (jZ day p<|gs.take n).item,iV (jZ day p<|gs.take n).n,iV (jZ day p<|gs.take n).kind,aK (jZ day p<|gs.take n).label,aW<|List.map aQ (jZ day p<|gs.take n).head,aW<|List.map aQ (jZ day p<|gs.take n).words,aW<|List.map aV (jZ day p<|gs.take n).kids]
theorem Fb(gs:List PGaz)(n:Nat)(h1:1≤n)(hn:n≤gs.length)(hl:gs.length<2^30):kP 43 [nV n,.ls (gs.map ay)] (.bool true):=by
  have g1:au (.ofNat n) 1=false:=jx (by simp only[oN];omega)
  have g2:au (.ofNat gs.length) (.ofNat n)=false:=jx (by simp only[oN];omega)
  have rr0 b' (h:(true)=b':=by(simp only[aS,aw,bS, *];first|done|rfl)):=h;exact bC Tryz.func43<|Kt 3 (bO g1)<|Kt 0 (bO g1)<|Kt 0 (bO g1)<|Kl 0 10 (ln ay gs)<|Mt (bO g1)<|Ku 0 (bO g1)<|Kf 0<|ch<|rr0<|aw<|au (Int.ofNat gs.length)<|Int.ofNat n
theorem F3(gs:List PGaz)(ok:OkG gs)(n:Nat)(day:Int)(p:aO)(hn0:1≤n)(hn:n≤gs.length):kP 45 [nV n,iV day,.str p,.ls (gs.map ay)] (.bool (rH (gs.take (n-1)) (gs.take n) p day)):=by
  have hl:=ok.len
  have ha:=uz gs ok (n-1) day p (by omega)
  have hb:=uz gs ok n day p hn
  have oa:=uZ ((ok.sub (hs:=gs.take (n-1)) (by rw[pS];omega) fun g hg=>l0 hg).okB day p)
  have ob:=uZ ((ok.sub (hs:=gs.take n) (by rw[pS];omega) fun g hg=>l0 hg).okB day p)
  have he:=O7 _ oa _ ob
  exact bC Tryz.func45<|Kl 2 10 (we n)<|Kp 2 ha<|Kp 3 hb<|Mp he<|Kf 1<|bd<|dF<|aw<|Ao (jZ day p<|gs.take<|n-1)<|jZ day p<|gs.take n
theorem rb(n:Nat)(hp:0<n)(hn:n<2^30):kD 78 [.nils,nV n] (ab []) (.slice 0 0 0 0 none) (ab [.row 1 true 0 (List.replicate n (iV 0))]):=by
  let q:=iV 0;exact eM Tryz.func78 fun a=>Kl 10 14 (b0 (x:=Int.ofNat n-(0:Int)) (n:=n-0) eP)<|Ka 2 0 (Int.ofNat<|n-0) (fun _ _=>Ko 4 (by exact YC hp hn:ec (wN (1) (8) q (ab []) ((some (AV.nils))) ((some (nV (n-0)))))=some (ARes.val (AV.slice 0 0 0 n none) (ab [AObj.row 1 true 0 (List.replicate n q)])))<|Kf 5 a) fun _ _=>Mg 1<|Mw .abs (by(exfalso;(simp only[oN]at *;omega)):False)
theorem V3{H:AHeap}{id sz ep off len n bt:Nat}{op:Bool}{xs new ys:List AV}{x:AV}(hg:H.get id=some (.row sz op ep xs))(hx:jM H x=some new)(hf:dc sz new=true)(hne:new≠[])(hl:off+len+new.length≤xs.length)(hs:small (len+new.length) bt=true)(e1:len+new.length=n)(e2:bj xs (off+len) new=ys):
    ec (co sz bt H (some (.slice id ep off len none)) (some x))=some (.val (.slice id ep off n none) (H.put id (.row sz op ep ys))):=by
  subst e1
  cases new with
  |nil=>simp_all
  | cons y r=>
    simp_all[qX,co,fu,gV,ec]
theorem ZJ(X Y:List Int){n:Nat}(h:n=X.length+Y.length):bj (List.replicate n (iV 0)) 0 (X.map ak)=X.map ak++List.replicate Y.length (iV 0):=by
  subst h
  unfold bj
  rw[List.take_zero,rP,lM,eE,List.drop_replicate,Nat.add_sub_cancel_left]
theorem ZW(X Y:List Int):bj (X.map ak++List.replicate Y.length (iV 0)) X.length (Y.map ak)=(X++Y).map ak:=by
  unfold bj
  rw[List.take_left' (b9 ..),B9 (by simp),dG,pL]
theorem OX(X Y:List Int)(hx:X.length<2^22)(hy:Y.length<2^22)(hx0:0<X.length)(hy0:0<Y.length):kD 63 [.ps [.ls (X.map ak),.ls (Y.map ak)] true] (ab []) (.slice 0 0 0 (X.length+Y.length) none) (ab [mG 0 (X++Y)]):=by
  let q:=ab [aZ 1 true 0 (X.map ak++List.replicate Y.length (iV 0))];let q1:=aI 0 0 0 X.length none;exact eM Tryz.func63 fun a=>Mg 4<|M0 (.un 3)<|Kl 7 17 (ln ak X)<|Kl 0 18 (b0 (x:=(0:Int)+Int.ofNat X.length) (n:=(0:Nat)+X.length) eP)<|Kl 13 17 (ln ak Y)<|Kl 0 18 (b0 (x:=Int.ofNat ((0:Nat)+X.length)+Int.ofNat Y.length) (n:=(0:Nat)+X.length+Y.length) eP)<|Ke 8 (rb (0+X.length+Y.length) (by(omega))<|by(omega))<|Mg 3<|M0 (.un 3)<|Ko 6 (by exact V3 (new:=X.map ak) rfl rfl (fh (sz:=1) (f:=ak) (fun _=>rfl) X) (EV hx0) (by rw[lM,lR];omega) (cK (m:=2^30) (by rw[lM];omega) (by decide) (by decide)) (by rw[lM];omega) (ZJ X Y (by omega)):ec (co (1) (8) (ab [AObj.row 1 true 0 (List.replicate (0+X.length+Y.length) (iV 0))]) ((some (AV.slice 0 0 0 0 none))) ((some (AV.ls (X.map ak)))))=some (ARes.val q1 q))<|Ko 9 (by exact V3 (new:=Y.map ak) rfl rfl (fh (sz:=1) (f:=ak) (fun _=>rfl) Y) (EV hy0) (by rw[lA,lM,lM,lR];omega) (cK (m:=2^30) (by rw[lM];omega) (by decide) (by decide)) (by rw[lM]) (by rw[eE];exact ZW X Y):ec (co (1) (8) q ((some q1)) ((some (AV.ls (Y.map ak)))))=some (ARes.val (AV.slice 0 0 0 (X.length+Y.length) none) (ab [AObj.row 1 true 0 ((X++Y).map ak)])))<|Kf 6 a
theorem L3(gs:List PGaz):0<(kj gs).length:=List.length_pos_of_mem (BX gs)
theorem Qx:∀{l m:List Int},l.Pairwise (fun a b=>a<b)→(∀z,z∈l→z∈m)→l.length≤m.length
  |[],_,_,_=>bH _
  | a::r,m,hp,hs=>by
    obtain⟨p1,p2⟩:=jU.1 hp
    have ha:=hs a (eT ..)
    have ih:=Qx (m:=m.erase a) p2 fun z hz=>(List.mem_erase_of_ne (by have:=p1 z hz;omega)).2 (hs z (e9 _ hz))
    rw[List.length_erase_of_mem ha]at ih
    have:=List.length_pos_of_mem ha
    simp only[lC];omega
theorem ZZ(a b:List PGaz):(EE a b).length<(kj a).length+(kj b).length:=by
  obtain⟨r,hr⟩:=QT (vb ([0]++ZD b)) (fun z hz=>(yh b z hz).1) (BX b)
  have hr:kj b=0::r:=hr
  have:=Qx (l:=EE a b) (m:=kj a++r) (vb _) fun z hz=>by
    rcases iR.1 (oC.1 hz)with q|q
    · exact pd _ q
    · rw[hr]at q
      rcases fw.1 q with q|q
      · rw[q];exact pd _ (BX a)
      · exact pO _ q
  rw[hr];simp only[lA,lC]at *;omega
/-- The row of the points, as the program leaves it. -/
noncomputable def Xf(a b:List PGaz):List Int:=EE a b++List.replicate ((bX (kj a++kj b)).length -(EE a b).length) 0
theorem Xe(a b:List PGaz):(EE a b).length<(Xf a b).length∧(Xf a b).take (EE a b).length=EE a b:=by
  have:=ZZ a b
  have h2:(bX (kj a++kj b)).length=(kj a).length+(kj b).length:=by rw[rK,lA]
  refine⟨?_,List.take_left' rfl⟩
  unfold Xf
  rw[lA,lR,h2];omega
theorem XG{R B:List Int}(h:R.take B.length=B)(hl:B.length<R.length):(R.set B.length 1048577).take (B.length+1)=B++[1048577]:=by
  rw[x8 (by rw[lS];exact hl),List.take_set_of_le (ar _),h,JU hl,if_pos rfl]
theorem SJ(gs:List PGaz)(n:Nat)(X Y:List Int)(hn0:1≤n)(hn:n≤gs.length)(hl:gs.length<2^30)(hf:kP 41 [nV n,.ls (gs.map ay)] (.ls ((gs.take n).map ay)))(hf1:kP 41 [nV (n-1),.ls (gs.map ay)] (.ls ((gs.take (n-1)).map ay)))
    (ha:kP 31 [.ls ((gs.take (n-1)).map ay)] (.ls (X.map ak)))(hb:kP 31 [.ls ((gs.take n).map ay)] (.ls (Y.map ak)))(hx0:0<X.length)(hy0:0<Y.length)(hx:X.length<2^22)(hy:Y.length<2^22):
    kD 44 [nV n,.ls (gs.map ay)] (ab []) (.slice 0 0 0 (am (bX (X++Y))).length none) (ab [mG 0 (am (bX (X++Y))++List.replicate ((bX (X++Y)).length -(am (bX (X++Y))).length) 0)]):=by
  have q1:(X++Y).length=X.length+Y.length:=dH ..
  have q2:=rK (X++Y)
  have hc:=OX X Y hx hy hx0 hy0
  generalize X++Y=Z at *
  exact eM Tryz.func44 fun a=>Kl 2 7 (we n)<|Kp 0 hf1<|Mp ha<|Kp 1 hf<|Mp hb<|Ke 0 hc<|Ke 1 (Aq Z 0 (X.length+Y.length) (by(omega)) (by(omega))<|by(omega))<|Ke 0 (sK (bX Z) 0 (X.length+Y.length) (by(omega)) (by(omega))<|by(omega))<|Kf 0 a
theorem Oq(gs:List PGaz)(ok:OkG gs)(n:Nat)(hn0:1≤n)(hn:n≤gs.length):
    kD 44 [nV n,.ls (gs.map ay)] (ab []) (.slice 0 0 0 (EE (gs.take (n-1)) (gs.take n)).length none) (ab [mG 0 (Xf (gs.take (n-1)) (gs.take n))]):=by
  have hl:=ok.len
  have oa:OkG (gs.take (n-1)):=ok.sub (by rw[pS];omega) fun g hg=>l0 hg
  have ob:OkG (gs.take n):=ok.sub (by rw[pS];omega) fun g hg=>l0 hg
  have:=uO (gs.take (n-1));have:=uO (gs.take n)
  exact SJ gs n _ _ hn0 hn (by omega) (Ah gs n hn (by omega)) (Ah gs (n-1) (by omega) (by omega)) oa.brk ob.brk (L3 _) (L3 _) (by omega) (by omega)
theorem Vn{g:Int→Bool}{B E r:List Int}{w:Int}{i:Nat}(hE:E=B++[1048577])(hd:B.drop i=w::r)(hg:g w=true):dg g ((w::r)++[1048577])=⟨w,gD E (i+1)⟩::dg g (r++[1048577]):=by
  have hi:i<B.length:=by
    have:=congrArg List.length hd
    rw[wz,lC]at this;omega
  have e:E.drop (i+1)=r++[1048577]:=by
    rw[hE,List.drop_append_of_le_length (by omega),←yp,hd];rfl
  have z:=yd (show i+1<E.length by rw[hE,lA];simp only[lC,lN];omega)
  rw[e]at z
  cases r with
  | nil=>
    rw[rP]at z
    show dg g [w,1048577]=_
    rw[nS,hg,(List.cons.inj z).1];rfl
  | cons c r=>
    show dg g (w::c::(r++[1048577]))=_
    rw[nS,hg,←(List.cons.inj z).1];rfl
theorem Vo{g:Int→Bool}{r:List Int}{w:Int}(hg:g w=false):dg g ((w::r)++[1048577])=dg g (r++[1048577]):=by
  cases r with
  |nil=>show dg g [w,1048577]=_;rw[nS,hg];rfl
  |cons c r=>show dg g (w::c::(r++[1048577]))=_;rw[nS,hg];rfl
theorem Rm{E B:List Int}(h:E=B++[1048577]):E.take (E.length-1)=B:=by rw[h,lA];simp
def BR(gs:List PGaz)(n:Nat)(p:aO)(B:List Int)(z8:List Int):Prop:=z8=B++[(1048577:Int)]
noncomputable def BP(gs:List PGaz)(n:Nat)(p:aO)(B:List Int)(z8:List Int):List AV×List AObj:=([nV n,AV.str p,AV.ls (gs.map ay),AV.nils,AV.ls (z8.map ak)],[])
def xG(gs:List PGaz)(n:Nat)(p:aO)(g:Int→Bool)(z8:List Int)(x0:Nat×List Int×Unit):Prop:=(z8.take (z8.length-1)).drop x0.1=x0.2.1∧dg g z8=dg g (x0.2.1++[(1048577:Int)])
noncomputable def pu(gs:List PGaz)(n:Nat)(p:aO)(g:Int→Bool)(z8:List Int)(x0:Nat×List Int×Unit):List AV×List AObj:=([nV n,AV.str p,AV.ls (gs.map ay),AV.nils,AV.ls (z8.map ak),AV.ls ((z8.take (z8.length-1)).map ak),nV (z8.take (z8.length-1)).length,nV x0.1],[])
def xF(gs:List PGaz)(n:Nat)(p:aO)(B:List Int)(g:Int→Bool)(z8:List Int)(x0:Nat×List Int×Nat×Nat×List PSpan):Prop:=(z8.take (z8.length-1)).drop x0.1=x0.2.1∧x0.2.2.2.1=x0.2.2.2.2.length∧dg g z8=x0.2.2.2.2++dg g (x0.2.1++[(1048577:Int)])∧x0.2.2.2.1+x0.2.1.length≤B.length
noncomputable def xE(gs:List PGaz)(n:Nat)(p:aO)(B:List Int)(g:Int→Bool)(z8:List Int)(x0:Nat×List Int×Nat×Nat×List PSpan):List AV×List AObj:=([nV n,AV.str p,AV.ls (gs.map ay),AV.slice 0 x0.2.2.1 0 x0.2.2.2.1 none,AV.ls (z8.map ak),AV.ls ((z8.take (z8.length-1)).map ak),nV (z8.take (z8.length-1)).length,nV x0.1],[AObj.row 2 true x0.2.2.1 (x0.2.2.2.2.map aJ)])
theorem OY(gs:List PGaz)(n:Nat)(p:aO)(R B:List Int)(g:Int→Bool)(hn0:1≤n)(hn:n≤gs.length)(hl:gs.length<2^30)(hB:B.length≤1048577)(hR:B.length<R.length)(hT:R.take B.length=B)(hR2:R.length<2^30)
    (hb:kD 44 [nV n,.ls (gs.map ay)] (ab []) (.slice 0 0 0 B.length none) (ab [mG 0 R]))
    (ht:kP 43 [nV n,.ls (gs.map ay)] (.bool true))
    (ho:∀d,kP 45 [nV n,iV d,.str p,.ls (gs.map ay)] (.bool (g d))):
    kP 22 [nV n,.str p,.ls (gs.map ay)] (.ls ((fj (dg g (B++[1048577]))).map aJ)):=by
  have rr0 b' (h:((fj (dg g (B++[1048577]))).map aJ)=b':=by first|rfl|(rw[←hz8,hj0];rfl)|(rw[←hz8,hj0.2.1];exact congrArg (fun x=>(fj x).map aJ) (dG _))):=h;let q:=List.map ak ((R.set B.length 1048577).take (B.length+1));let q3:=[iV 1048577];exact bC Tryz.func22<|Kp 2 ht<|Mg 2<|Mj (List Int) [0,1,2,7,8] (BP gs n p B) (BR gs n p B) (fun a=>Ke 1 hb<|Mg 0<|Mw (.opv (aI 0 0 0 (B.length+1) none) (ab [aZ 1 true 0<|(R.set B.length 1048577).map ak])<|.go 0<|.fsl 0 [0,1,2,7] 8 q<|.le 8 (aW q) .fin)<|xC (XM (sz:=1) (b:=8) (id:=0) (ep:=0) (len:=B.length) (op:=true) (h:=ab [aZ 1 true 0<|R.map ak]) (xs:=List.map ak R) (new:=q3) (xs':=List.map ak<|R.set B.length 1048577) (x:=jW q3 true) (by kernel_rfl) (by kernel_rfl) rt (km _ _) (bR (by(omega):B.length+1≤(R).length)<|tU (b9 ..).symm) (Mm (f:=ak) (g:=ak) (fun _=>rfl) (l:=R) (k:=B.length) (w:=1048577) (by(omega):B.length<(R).length)) (by(refine cK (m:=2^31) ?_ ?_ ?_<;>first|omega|decide):small (B.length+1) 8=true)) ti (cj (aq 0) (wA (f:=ak) (l:=R.set B.length 1048577) (n:=B.length+1))<|aX Jl<|(R.set B.length 1048577).take<|B.length+1) (eS q false<|aX Jl<|(R.set B.length 1048577).take<|B.length+1)<|a ((R.set B.length 1048577).take<|B.length+1) (by exact XG hT hR:List.take (B.length+1) (R.set B.length (1048577:Int))=B++[(1048577:Int)])) fun a hz8=>have hz8:=hz8;have:a.length=B.length+1:=(by rw[hz8,lA];rfl);have b:(a.take (a.length-1)).length=a.length-1:=(by rw[pS];omega);Kl 2 22 (ln ak a)<|Kl 0 23 (we a.length)<|M1 (.slp<|(a.take<|a.length-1).map ak) (cj (hM 1 ak a fun _=>rfl) (et (oA:0≤a.length-1) (by(simp only[oN,lM,lS]at *;omega):a.length-1≤(a.map ak).length))<|Vm (f:=ak) (l:=a) (h:=a.length-1))<|Kl 0 25 (ln ak<|List.take (a.length-1) a)<|Mg 0<|MM (Nat×List Int×Unit) (Nat×List Int×Nat×Nat×List PSpan) [0,1,2,7,8,24,25,26] (pu gs n p g a) (xE gs n p B g a) (xG gs n p g a) (xF gs n p B g a) (fun x=>x.2.1.length) (fun x=>x.2.1.length) (.inl (0,List.take (a.length-1) a,())) (aq<|pu gs n p g a (0,List.take (a.length-1) a,())) (et (rfl:List.drop 0 (a.take (a.length-1))=List.take (a.length-1) a) (by(rw[Rm hz8,hz8]):(dg g a=dg g (a.take (a.length-1)++[(1048577:Int)])))) (fun c e f=>Mc c.2.1 (fun b=>have f:=eG e.1 b;have hj0:=gd (J:=fun b x=>dg g a=dg g (b++[(1048577:Int)])) (a:=c.2.2) b e.2;Kh 0 f<|Kp 0 qg<|Kf 0<|b6<|rr0<|(fj []).map aJ) fun i j k=>have l:=fJ e.1 k;have:=an l;have o:=eF (enc:=ak) e.1 k;have hj0:=cw (J:=fun b x=>dg g a=dg g (b++[(1048577:Int)])) (a:=c.2.2) k e.2;Kt 0 l<|Kx 0 o<|Kp 6 (ho i)<|Mb (g i) (fun _=>Kl 4 40 (g0 c.1)<|Mx (bZ ak (by(simp only[oN,lM,lS]at *;omega):c.1+1<(a).length))<|Kl 5 46 (g0 c.1)<|Kf 0<|f (.inr (c.1+1,j,(0,1,[PSpan.mk i<|gD a<|c.1+1]))) (et (bJ e.1 k) (by exact⟨rfl,by rw[hj0,Vn hz8 (by have z:=e.1.trans k;rw[Rm hz8]at z;exact z) (by assumption)];rfl,(by have z:=ft e.1 k;rw[b]at z;show 1+j.length≤B.length;omega)⟩:((1:Nat)=[PSpan.mk i (gD a (c.1+1))].length∧dg g a=[PSpan.mk i (gD a (c.1+1))]++dg g (j++[(1048577:Int)])∧(1:Nat)+j.length≤B.length)))<|dl k) fun _=>Kl 0 46 (g0 c.1)<|Kf 0<|f (.inl (c.1+1,j,())) (et (bJ e.1 k) (by exact hj0.trans (Vo (by assumption)):(dg g a=dg g (j++[(1048577:Int)]))))<|dl k) fun b c e=>let f:=List.map aJ b.2.2.2.2;Mc b.2.1 (fun e=>have i:=eG c.1 e;have hj0:=gd (J:=fun b x=>x.2.1=x.2.2.length∧dg g a=x.2.2++dg g (b++[(1048577:Int)])∧x.2.1+b.length≤B.length) (a:=b.2.2) e c.2;Kh 0 i<|Mg 0<|M2 (.fsl 0 [] 47 f) ti (cj (aq b.2.2.1) (tA aJ b.2.2.2.2 b.2.2.2.1 (by(omega):(b.2.2.2.2).length=b.2.2.2.1))<|aX VO b.2.2.2.2)<|Ml 47 (eS f false<|aX VO b.2.2.2.2)<|Mp (gQ b.2.2.2.2<|by(omega))<|Kf 0<|b6<|rr0<|(fj b.2.2.2.2).map aJ) fun f i j=>have k:=fJ c.1 j;have:=an k;have l:=eF (enc:=ak) c.1 j;have hj0:=cw (J:=fun b x=>x.2.1=x.2.2.length∧dg g a=x.2.2++dg g (b++[(1048577:Int)])∧x.2.1+b.length≤B.length) (a:=b.2.2) j c.2;Kt 0 k<|Kx 0 l<|Kp 6 (ho f)<|Mb (g f) (fun _=>Kl 4 40 (g0 b.1)<|Mx (bZ ak (by(simp only[oN,lM,lS]at *;omega):b.1+1<(a).length))<|K1 2 .app (cj (aq b.2.2.1) (by(rw[lM];exact hj0.1):b.2.2.2.1=(b.2.2.2.2.map aJ).length) (by(have z:=hj0.2.2;simp only[lC]at z;refine cK (m:=2^23) ?_ ?_ ?_<;>first|omega|decide):small (b.2.2.2.1+1) 16=true))<|M1 (.obj 0<|aZ 2 true (b.2.2.1+1)<|(b.2.2.2.2++[PSpan.mk f<|gD a<|b.1+1]).map aJ) (congrArg (aZ 2 true<|b.2.2.1+1)<|cM (f:=aJ) (l:=b.2.2.2.2) (ws:=[PSpan.mk f<|gD a<|b.1+1]))<|Kl 1 46 (g0 b.1)<|Kf 0<|e (.inr (b.1+1,i,(b.2.2.1+1,b.2.2.2.1+1,b.2.2.2.2++[PSpan.mk f<|gD a<|b.1+1]))) (et (bJ c.1 j) (by exact⟨by rw[lA,←hj0.1];rfl,by rw[hj0.2.1,Vn hz8 (by have z:=c.1.trans j;rw[Rm hz8]at z;exact z) (by assumption)];simp,by(have z:=hj0.2.2;simp only[lC]at z;omega)⟩:(b.2.2.2.1+1=(b.2.2.2.2++[PSpan.mk f (gD a (b.1+1))]).length∧dg g a=b.2.2.2.2++[PSpan.mk f (gD a (b.1+1))]++dg g (i++[(1048577:Int)])∧b.2.2.2.1+1+i.length≤B.length)))<|dl j) fun _=>Kl 0 46 (g0 b.1)<|Kf 0<|e (.inr (b.1+1,i,(b.2.2.1,b.2.2.2.1,b.2.2.2.2))) (et (bJ c.1 j) (by exact⟨hj0.1,by rw[hj0.2.1,Vo (by assumption)],by(have z:=hj0.2.2;simp only[lC]at z;omega)⟩:(b.2.2.2.1=b.2.2.2.2.length∧dg g a=b.2.2.2.2++dg g (i++[(1048577:Int)])∧b.2.2.2.1+i.length≤B.length)))<|dl j
theorem Jt(gs:List PGaz)(ok:OkG gs)(n:Nat)(p:aO)(hn0:1≤n)(hn:n≤gs.length):kP 22 [nV n,.str p,.ls (gs.map ay)] (.ls ((EG (gs.take (n-1)) (gs.take n) p).map aJ)):=by
  have hl:=ok.len
  have hr:=Xe (gs.take (n-1)) (gs.take n)
  have h2:(Xf (gs.take (n-1)) (gs.take n)).length<2^30:=by
    have:=uO (gs.take (n-1));have:=uO (gs.take n)
    have e:(bX (kj (gs.take (n-1))++kj (gs.take n))).length=(kj (gs.take (n-1))).length+(kj (gs.take n)).length:=by rw[rK,lA]
    have:=L2 (gs.take (n-1)) (gs.take n)
    unfold Xf
    rw[lA,lR,e];omega
  exact OY gs n p (Xf (gs.take (n-1)) (gs.take n)) (EE (gs.take (n-1)) (gs.take n)) _ hn0 hn (by omega) (L2 _ _) hr.1 hr.2 h2 (Oq gs ok n hn0 hn) (Fb gs n hn0 hn (by omega)) fun d=>F3 gs ok n d p hn0 hn
theorem TY(gs:List PGaz)(n:Nat)(p:aO)(D:List PSpan)(hn0:1≤n)(hn:n≤gs.length)(hl:gs.length<2^30)(hD:D.length<2^22)(ht:kP 43 [nV n,.ls (gs.map ay)] (.bool true))
    (hc:kP 22 [nV n,.str p,.ls (gs.map ay)] (.ls (D.map aJ))):
    kP 25 [nV n,.str p,.ls (gs.map ay)] (.ls ((Cl (gD gs (n-1)).day D).map aJ)):=by
  have rr0 b' (h:((Cl (gD gs (n-1)).day D).map aJ)=b':=by first|rfl|(rw[hj0];rfl)|(rw[hj0.2.1];simp[Cl];done)):=h;exact bC Tryz.func25<|Kp 2 ht<|Kp 5 hc<|Kl 0 18 (ln aJ D)<|Mg 0<|kw Nat Nat (List PSpan) aJ D [0,2,7,17,18,19] (fun a _=>([nV n,aW<|gs.map ay,af,aW<|D.map aJ,nV D.length,nV a],[])) (fun a _ b c d=>([nV n,aW<|gs.map ay,aI 0 b 0 c none,aW<|D.map aJ,nV D.length,nV a],[aZ 2 true b<|d.map aJ])) (fun a=>Cl (gD gs<|n-1).day D=Cl (gD gs<|n-1).day a) (fun a _ b c=>b=c.length∧Cl (gD gs<|n-1).day D=c++Cl (gD gs<|n-1).day a∧b+a.length≤D.length) (by rfl) (fun _ _ _ _ _ a hj0=>Kh 0 a<|Kf 1 (Le.lsn<|rr0 []:Le _ (af))) (fun a _ b _ c d e f g i _ j hj0=>Kt 0 i<|Mx j<|Mg 6<|Ma (we n)<|Mx (bZ ay (oA:n-1<(gs).length))<|Ka 9 c.from_ (vV c.to (gD gs<|n-1).day) (fun _ _=>Kl 5 42 (g0 a)<|Mg 0<|M0 (.ren [1,0] [] [0,2,7,17,18,19])<|M1 (.frz 1 [0,2,7,17,18,19]) (et rt ti)<|Mf<|f 0 1 [PSpan.mk c.from_<|vV c.to (gD gs<|n-1).day]<|by exact⟨rfl,by rw[hj0,KI (by assumption)];rfl,by(have z:=ft b g;show 1+d.length≤D.length;omega)⟩) fun _ _=>Kl 0 42 (g0 a)<|K1 0 (.frz 0 [0,2,7,17,18,19]) ti<|Mf<|e<|by exact hj0.trans (KL (by assumption))) (fun _ _ a b c _ _ _ d hj0=>Kh 0 d<|Mg 1<|M2 (.fsl 0 [] 6<|c.map aJ) ti (cj (aq a) (tA aJ c b (by(omega):(c).length=b))<|aX VO c)<|Ml 6 (eS (c.map aJ) false<|aX VO c)<|Mf<|b6<|rr0<|c.map aJ) fun a _ b c d _ _ e f _ g _ i _ j hj0=>Kt 0 i<|Mx j<|Mg 6<|Ma (we n)<|Mx (bZ ay (oA:n-1<(gs).length))<|Ka 9 e.from_ (vV e.to (gD gs<|n-1).day) (fun _ _=>K1 2 .app (cj (aq b) (by(rw[lM];exact hj0.1):c=(d.map aJ).length) (by(have z:=hj0.2.2;simp only[lC]at z;refine cK (m:=2^23) ?_ ?_ ?_<;>first|omega|decide):small (c+1) 16=true))<|M1 (.obj 0<|aZ 2 true (b+1)<|(d++[PSpan.mk e.from_<|vV e.to (gD gs<|n-1).day]).map aJ) (congrArg (aZ 2 true<|b+1)<|cM (f:=aJ) (l:=d) (ws:=[PSpan.mk e.from_<|vV e.to (gD gs<|n-1).day]))<|Kl 1 42 (g0 a)<|K1 0 (.frz 1 [0,2,7,17,18,19]) (et (tR 2 true (b+1) 1<|aX VO<|d++[PSpan.mk e.from_<|vV e.to (gD gs<|n-1).day]) ti)<|Mf<|g (b+1) (c+1) (d++[PSpan.mk e.from_<|vV e.to (gD gs<|n-1).day])<|by exact⟨by rw[lA,←hj0.1];rfl,by rw[hj0.2.1,KI (by assumption)];simp,by(have z:=hj0.2.2;simp only[lC]at z;omega)⟩) fun _ _=>Kl 0 42 (g0 a)<|K1 0 (.frz 1 [0,2,7,17,18,19]) (et (tR 2 true b 1<|aX VO d) ti)<|Mf<|g b c d<|by exact⟨hj0.1,by rw[hj0.2.1,KL (by assumption)],by(have z:=hj0.2.2;simp only[lC]at z;omega)⟩
/-- The numbers for which something holds, from one on. -/
def rG(q:Nat→Bool):Nat→Nat→List Int
  |0,_=>[]
  |k+1,n=>match q n with|true=>.ofNat n::rG q k (n+1)|false=>rG q k (n+1)
theorem Km{q:Nat→Bool}{k n:Nat}(h:q n=true)(hk:0<k):rG q k n=.ofNat n::rG q (k-1) (n+1):=by
  cases k with
  |zero=>cases hk
  |succ k=>simp only[rG,h];rfl
theorem KA{q:Nat→Bool}{k n:Nat}(h:q n=false)(hk:0<k):rG q k n=rG q (k-1) (n+1):=by
  cases k with
  |zero=>cases hk
  |succ k=>simp only[rG,h];rfl
theorem TW{q:Nat→Bool}{k j n:Nat}(h:k=j):rG q k n=rG q j n:=by rw[h]
theorem KC(q:Nat→Bool)(m:Nat):∀(k n:Nat),(rG q k n).any (fun x=>al x (.ofNat m))=(q m&&decide (n≤m∧m<n+k))
  |0,n=>by simp[rG];try omega
  | k+1,n=>by
    have ih:=KC q m k (n+1)
    have e:al (Int.ofNat n) (Int.ofNat m)=decide (n=m):=by rw[pK,decide_eq_decide];simp only[oN];omega
    cases h:q n with
    | true=>
      rw[Km h (pM _),pg,Nat.succ_sub_one,ih,e]
      rcases Nat.lt_trichotomy n m with g|g|g
      · simp;grind
      · subst g;simp[h]
      · simp;grind
    | false=>
      rw[KA h (pM _),Nat.succ_sub_one,ih]
      by_cases g:n=m
      · subst g;rw[h];rfl
      · congr 1;rw[decide_eq_decide];omega
theorem KB(q:Nat→Bool):∀(k n:Nat),(rG q k n).length≤k
  |0,_=>ar _
  | k+1,n=>by
    have:=KB q k (n+1)
    cases h:q n with
    |true=>rw[Km h (pM _)];rw[Nat.succ_sub_one];simp only[lC];omega
    |false=>rw[KA h (pM _),Nat.succ_sub_one];omega
def DL(gs:List PGaz)(p:aO)(day:Int)(q:Nat→Bool)(x0:Nat):Prop:=(1:Nat)≤x0∧x0≤gs.length+(1:Nat)∧rG q gs.length (1:Nat)=rG q (gs.length+(1:Nat)-x0) x0
noncomputable def tC(gs:List PGaz)(p:aO)(day:Int)(q:Nat→Bool)(x0:Nat):List AV×List AObj:=([iV day,AV.str p,AV.ls (gs.map ay),AV.nils,nV x0],[])
def DI(gs:List PGaz)(p:aO)(day:Int)(q:Nat→Bool)(x0:Nat×Nat×Nat×List Int):Prop:=(1:Nat)≤x0.1∧x0.1≤gs.length+(1:Nat)∧x0.2.2.1=x0.2.2.2.length∧x0.2.2.2.length<x0.1∧rG q gs.length (1:Nat)=x0.2.2.2++rG q (gs.length+(1:Nat)-x0.1) x0.1
noncomputable def DH(gs:List PGaz)(p:aO)(day:Int)(q:Nat→Bool)(x0:Nat×Nat×Nat×List Int):List AV×List AObj:=([iV day,AV.str p,AV.ls (gs.map ay),AV.slice 0 x0.2.1 0 x0.2.2.1 none,nV x0.1],[AObj.row 1 true x0.2.1 (x0.2.2.2.map ak)])
theorem Wj(gs:List PGaz)(p:aO)(day:Int)(q:Nat→Bool)(g1:au day 0=false)(g2:au 1048576 day=false)(hl:gs.length<2^20)
    (ho:∀n,1≤n→n≤gs.length→kP 45 [nV n,iV day,.str p,.ls (gs.map ay)] (.bool (q n))):
    kP 23 [iV day,.str p,.ls (gs.map ay)] (.ls ((rG q gs.length 1).map ak)):=by
  have rr0 b' (h:((rG q gs.length 1).map ak)=b':=by first|rfl|(rw[hx0.2.2,show gs.length+1-x0=0 by(first|omega|(simp only[oN]at *;omega))];rfl)|(rw[hx0.2.2.2.2,show gs.length+1-x0.1=0 by(first|omega|(simp only[oN]at *;omega))];exact congrArg (List.map ak) (dG _))):=h;exact bC Tryz.func23<|Kh 4 g1<|Kh 0 g1<|Kw 0 g1<|Mh g2<|Mg 0<|MM Nat (Nat×Nat×Nat×List Int) [0,1,2,7,8] (tC gs p day q) (DH gs p day q) (DL gs p day q) (DI gs p day q) (fun a=>2^31-a) (fun a=>2^31-a.1) (.inl 1) (aq<|tC gs p day q 1) (by exact⟨ar _,by omega,rfl⟩:(1:Nat)≤1∧(1:Nat)≤gs.length+1∧rG q gs.length (1:Nat)=rG q (gs.length+1-1) (1:Nat)) (fun x0 hx0 a=>have hx0:(1:Nat)≤x0∧x0≤gs.length+1∧rG q gs.length (1:Nat)=rG q (gs.length+1-x0) x0:=hx0;Kl 2 17 (ln ay gs)<|Kd 0 (Int.ofNat gs.length) (Int.ofNat x0) (fun _ _=>Kp 3 (ho x0 (by(omega))<|by(simp only[oN]at *;omega))<|Mb (q x0) (fun _=>Kl 6 20 (g0 x0)<|Kf 0<|a (.inr (x0+1,0,1,[Int.ofNat x0])) (by exact⟨by(omega),by(simp only[oN]at *;omega),rfl,by(show 1<x0+1;omega),by rw[hx0.2.2,Km (by assumption) (by(simp only[oN]at *;omega))];exact congrArg _ (TW (by(omega)))⟩:(1:Nat)≤x0+1∧x0+1≤gs.length+1∧(1:Nat)=[Int.ofNat x0].length∧[Int.ofNat x0].length<x0+1∧rG q gs.length (1:Nat)=[Int.ofNat x0]++rG q (gs.length+1-(x0+1)) (x0+1)) (by(omega):2^31-(x0+1)<2^31-x0)) fun _=>Kl 1 20 (g0 x0)<|Kf 0<|a (.inl<|x0+1) (by exact⟨by(omega),by(simp only[oN]at *;omega),by rw[hx0.2.2,KA (by assumption) (by(simp only[oN]at *;omega))];exact TW (by(omega))⟩:(1:Nat)≤x0+1∧x0+1≤gs.length+1∧rG q gs.length (1:Nat)=rG q (gs.length+1-(x0+1)) (x0+1)) (by(omega):2^31-(x0+1)<2^31-x0)) fun _ _=>Kf 1 (Le.lsn<|rr0 []:Le _ (af))) fun x0 hx0 a=>let b:=List.map ak x0.2.2.2;have hx0:(1:Nat)≤x0.1∧x0.1≤gs.length+1∧x0.2.2.1=x0.2.2.2.length∧x0.2.2.2.length<x0.1∧rG q gs.length (1:Nat)=x0.2.2.2++rG q (gs.length+1-x0.1) x0.1:=hx0;Kl 2 17 (ln ay gs)<|Kd 0 (Int.ofNat gs.length) (Int.ofNat x0.1) (fun _ _=>Kp 3 (ho x0.1 (by(omega))<|by(simp only[oN]at *;omega))<|Mb (q x0.1) (fun _=>K1 2 .app (cj (aq x0.2.1) (by(rw[lM];exact hx0.2.2.1):x0.2.2.1=(x0.2.2.2.map ak).length) (by(have z:=hx0.2.2.2.1;have z2:=hx0.2.2.1;refine cK (m:=2^30) ?_ ?_ ?_<;>first|(omega)|decide):small (x0.2.2.1+1) 8=true))<|M1 (.obj 0<|aZ 1 true (x0.2.1+1)<|(x0.2.2.2++[Int.ofNat x0.1]).map ak) (congrArg (aZ 1 true<|x0.2.1+1)<|cM (f:=ak) (l:=x0.2.2.2) (ws:=[Int.ofNat x0.1]))<|Kl 2 20 (g0 x0.1)<|Kf 0<|a (.inr (x0.1+1,x0.2.1+1,x0.2.2.1+1,x0.2.2.2++[Int.ofNat x0.1])) (by exact⟨by(omega),by(simp only[oN]at *;omega),by rw[lA,←hx0.2.2.1];rfl,by(have z:=hx0.2.2.2.1;rw[lA];simp only[lC,lN];omega),by rw[hx0.2.2.2.2,Km (by assumption) (by(simp only[oN]at *;omega)),md];exact congrArg _ (congrArg _ (TW (by(omega))))⟩:(1:Nat)≤x0.1+1∧x0.1+1≤gs.length+1∧x0.2.2.1+1=(x0.2.2.2++[Int.ofNat x0.1]).length∧(x0.2.2.2++[Int.ofNat x0.1]).length<x0.1+1∧rG q gs.length (1:Nat)=x0.2.2.2++[Int.ofNat x0.1]++rG q (gs.length+1-(x0.1+1)) (x0.1+1)) (by(omega):2^31-(x0.1+1)<2^31-x0.1)) fun _=>Kl 1 20 (g0 x0.1)<|Kf 0<|a (.inr (x0.1+1,x0.2.1,x0.2.2.1,x0.2.2.2)) (by exact⟨by(omega),by(simp only[oN]at *;omega),hx0.2.2.1,by(have z:=hx0.2.2.2.1;omega),by rw[hx0.2.2.2.2,KA (by assumption) (by(simp only[oN]at *;omega))];exact congrArg _ (TW (by(omega)))⟩:(1:Nat)≤x0.1+1∧x0.1+1≤gs.length+1∧x0.2.2.1=x0.2.2.2.length∧x0.2.2.2.length<x0.1+1∧rG q gs.length (1:Nat)=x0.2.2.2++rG q (gs.length+1-(x0.1+1)) (x0.1+1)) (by(omega):2^31-(x0.1+1)<2^31-x0.1)) fun _ _=>Mg 1<|M2 (.fsl 0 [] 6 b) ti (cj (aq x0.2.1) (tA ak x0.2.2.2 x0.2.2.1 (by(omega):(x0.2.2.2).length=x0.2.2.1))<|aX Jl x0.2.2.2)<|Ml 6 (eS b false<|aX Jl x0.2.2.2)<|Mf<|b6<|rr0 b
theorem Lr(l:List PSpan)(d:Int)(hl:l.length<2^60):kP 24 [.ls (l.map aJ),iV d] (.bool (BL l d)):=by
  have rr0 b' (h:(BL l d)=b':=by(simp only[BL,Aa,pg,List.any_nil,aS,aw,bS, *];done)):=h;exact bC Tryz.func24<|Mg 1<|tK aJ l [0,1,5] (fun a _=>([aW<|l.map aJ,iV d,nV a],[])) (fun a=>l.any (Aa d)=a.any (Aa d)) (by rfl) (fun _ _ _ _ _ a _=>Kl 2 8 (ln aJ l)<|Kh 0 a<|Ky 0<|rr0 false) fun a _ _ _ b c e _ f _ g _=>Kl 2 8 (ln aJ l)<|Kt 0 f<|Kd 2 d 0 (fun f _=>Kt 0 (bO f)<|Ku 0 (bO f)<|Kd 0 1048576 d (fun f _=>Kt 0 (bO f)<|Kt 0 (bO f)<|Mx g<|Mt (bO f)<|Kt 0 (bO f)<|Kt 0 (bO f)<|Kt 0 (bO f)<|Ku 0 (bO f)<|Kd 0 d b.from_ (fun f _=>Kt 0 (bO f)<|Kt 0 (bO f)<|Kt 0 (bO f)<|Mx g<|Mt (bO f)<|Kt 0 (bO f)<|Kt 0 (bO f)<|Ku 0 (bO f)<|Mb (au d b.to) (fun a=>have:=an a;Ky 0<|rr0 true) fun b=>have:=aF b;Kl 1 11 (dW a)<|Kf 0<|e<|by simp only[Aa,pg,List.any_nil,aS,aw,bS, *]at *) fun b _=>Mh (bN b)<|Mh (bN b)<|Mh (bN b)<|Mh (bN b)<|Mh (bN b)<|Mh (bN b)<|My (bN b)<|Kl 2 11 (dW a)<|Kf 0<|e<|by simp only[Aa,pg,List.any_nil,aS,aw,bS, *]at *) fun b _=>Mh (bN b)<|Mh (bN b)<|Mh (bN b)<|Mh (bN b)<|Mh (bN b)<|Mh (bN b)<|My (bN b)<|Kl 4 11 (dW a)<|Kf 0<|e<|by simp only[Aa,pg,List.any_nil,aS,aw,bS, *]at *) fun b _=>Mh (bN b)<|My (bN b)<|Kl 6 11 (dW a)<|Kf 0<|e<|by simp only[Aa,pg,List.any_nil,aS,aw,bS, *]at *
theorem Rw(gs:List PGaz)(p:aO)(hf:pm gs):kP 17 [.ls (gs.map ay),.str p] (.bool (NT gs p)):=by
  have rr0 b' (h:(NT gs p)=b':=by simp only[NT,aS,aw,bS, *]):=h;exact bC Tryz.func17<|Kp 1 (UA gs 24 hf oA oA)<|Kb 0 (N0 gs 24) (fun a=>Kt 0 a<|Kt 0 a<|Ku 0 a<|Kf 0<|ch<|rr0<|aw<|au 60<|Int.ofNat<|List.length p) fun a=>Mh a<|Mh a<|My a<|Ky 0<|rr0 false
theorem YV(gs:List PGaz)(n day:Int)(p:aO)(haw:kP 18 [] (.bool true))(hw:kP 17 [.ls (gs.map ay),.str p] (.bool false)):kP 6 [.ls (gs.map ay),iV n,iV day,.str p] (.bool true):=by
  exact bC Tryz.func6<|Kp 2 hw<|Kp 9 haw<|Kf 0<|bd<|dF true
theorem ZR(gs:List PGaz)(n day:Int)(p:aO)(haw:kP 18 [] (.bool true))(hw:kP 17 [.ls (gs.map ay),.str p] (.bool true))(g1:au n 1=true):kP 6 [.ls (gs.map ay),iV n,iV day,.str p] (.bool true):=by
  exact bC Tryz.func6<|Kp 2 hw<|Kt 5 g1<|Mt g1<|Mt g1<|Mt g1<|MV g1<|Kp 4 haw<|Kf 0<|bd<|dF true
theorem ZP(gs:List PGaz)(n day:Int)(p:aO)(haw:kP 18 [] (.bool true))(hw:kP 17 [.ls (gs.map ay),.str p] (.bool true))(g1:au n 1=false)(g2:au (.ofNat gs.length) n=true):kP 6 [.ls (gs.map ay),iV n,iV day,.str p] (.bool true):=by
  exact bC Tryz.func6<|Kp 2 hw<|Kh 5 g1<|Kh 0 g1<|Kh 0 g1<|Kl 0 26 (ln ay gs)<|Mh g1<|Kw 0 g1<|Kt 0 g2<|Mt g2<|MV g2<|Kp 2 haw<|Kf 0<|bd<|dF true
theorem ZO(gs:List PGaz)(n day:Int)(p:aO)(haw:kP 18 [] (.bool true))(hw:kP 17 [.ls (gs.map ay),.str p] (.bool true))(g1:au n 1=false)(g2:au (.ofNat gs.length) n=false)(g3:au day 0=true):kP 6 [.ls (gs.map ay),iV n,iV day,.str p] (.bool true):=by
  exact bC Tryz.func6<|Kp 2 hw<|Kh 5 g1<|Kh 0 g1<|Kh 0 g1<|Kl 0 26 (ln ay gs)<|Mh g1<|Kw 0 g1<|Kh 0 g2<|Kh 0 g2<|Kw 0 g2<|Kt 0 g3<|Mt g3<|MV g3<|Kp 0 haw<|Kf 0<|bd<|dF true
theorem ZN(gs:List PGaz)(n day:Int)(p:aO)(haw:kP 18 [] (.bool true))(hw:kP 17 [.ls (gs.map ay),.str p] (.bool true))(g1:au n 1=false)(g2:au (.ofNat gs.length) n=false)(g3:au day 0=false)(g4:au 1048576 day=true):kP 6 [.ls (gs.map ay),iV n,iV day,.str p] (.bool true):=by
  exact bC Tryz.func6<|Kp 2 hw<|Kh 5 g1<|Kh 0 g1<|Kh 0 g1<|Kl 0 26 (ln ay gs)<|Mh g1<|Kw 0 g1<|Kh 0 g2<|Kh 0 g2<|Kw 0 g2<|Kh 0 g3<|Kh 0 g3<|Kw 0 g3<|Mt g4<|Mp haw<|Kf 0<|bd<|dF true
/-- What the law's last part calls. -/
structure RvC(gs:List PGaz)(n:Nat)(day:Int)(p:aO)(u v:TUnit)(one past:Bool)(D T:List PSpan)(R:List Int):Prop where
  b1:kP 19 [nV (n-1),iV day,.str p,.ls (gs.map ay)] (eU u)
  b2:kP 19 [nV n,iV day,.str p,.ls (gs.map ay)] (eU v)
  s:kP 20 [eU u,eU v] (.bool one)
  r:kP 23 [iV day,.str p,.ls (gs.map ay)] (.ls (R.map ak))
  c:kP 22 [nV n,.str p,.ls (gs.map ay)] (.ls (D.map aJ))
  hc:kP 24 [.ls (D.map aJ),iV day] (.bool (aw one))
  t:kP 25 [nV n,.str p,.ls (gs.map ay)] (.ls (T.map aJ))
  ht:kP 24 [.ls (T.map aJ),iV day] (.bool past)
theorem ZL(gs:List PGaz)(n:Nat)(day:Int)(p:aO)(u v:TUnit)(D T:List PSpan)(R:List Int)(haw:kP 18 [] (.bool true))(hw:kP 17 [.ls (gs.map ay),.str p] (.bool true))(g1:au (.ofNat n) 1=false)(g2:au (.ofNat gs.length) (.ofNat n)=false)(g3:au day 0=false)(g4:au 1048576 day=false)(hl:gs.length<2^20)(hR:R.length<2^20)(hn0:1≤n)(hn:n≤gs.length)(ha:R.any (fun x=>al x (.ofNat n))=true)(hk:RvC gs n day p u v false (au day (gD gs (n-1)).day) D T R):kP 6 [.ls (gs.map ay),nV n,iV day,.str p] (.bool true):=by
  obtain⟨k1,k2,k3,k4,k5,k6,k7,k8⟩:=hk
  have rr0 b' (h:(true)=b':=by(exfalso;simp_all;done)):=h;exact bC Tryz.func6<|Kp 2 hw<|Kh 5 g1<|Kh 0 g1<|Kh 0 g1<|Kl 0 26 (ln ay gs)<|Mh g1<|Kw 0 g1<|Kh 0 g2<|Kh 0 g2<|Kw 0 g2<|Kh 0 g3<|Kh 0 g3<|Kw 0 g3<|Mh g4<|Kl 1 39 (we n)<|Kp 2 k1<|Kp 3 k2<|Mp k3<|Kp 4 k4<|Kl 0 54 (ln ak R)<|Mg 0<|JI ak R false [0,1,2,3,9,10,53,54,55] (fun a _ b=>([aW<|gs.map ay,nV n,iV day,aK p,dF false,dF b,aW<|R.map ak,nV R.length,nV a],[])) (fun a b=>(b||a.any fun a=>al a<|Int.ofNat n)=true) (by(exact ha)) (fun _ _ a _ _ _ b _=>Kh 0 b<|Kp 2 k5<|Kp 0 k6<|Kp 3 k7<|Kp 0 k8<|Kb 9 (a==true) (fun a=>Kt 0 a<|Kt 0 a<|Kl 4 93 (we n)<|Mx (bZ ay (oA:n-1<(gs).length))<|Kt 2 a<|Kt 0 a<|Ku 0 a<|Kb 0 (au day (gD gs<|n-1).day==au day (gD gs<|n-1).day) (fun a=>Mp haw<|MV a<|Kf 0<|bd<|dF true) fun a=>My a<|Ky 0<|rr0 false) fun a=>Mh a<|Mh a<|Mh a<|Mh a<|My a<|Ky 2<|rr0 false) fun a _ b _ _ c d e _ f _ g i=>Kt 0 f<|Mx g<|Kb 3 b (fun b=>Mt b<|Mt b<|MV b<|Kl 1 65 (g0 a)<|Kf 0<|e true<|by(rw[pg]at i;simp_all;done)) fun b=>Kh 0 b<|Kh 0 b<|Kw 0 b<|Kl 1 65 (g0 a)<|Kf 0<|e (al c<|Int.ofNat n)<|by(rw[pg]at i;simp_all;done)
theorem ZM(gs:List PGaz)(n:Nat)(day:Int)(p:aO)(u v:TUnit)(D T:List PSpan)(R:List Int)(haw:kP 18 [] (.bool true))(hw:kP 17 [.ls (gs.map ay),.str p] (.bool true))(g1:au (.ofNat n) 1=false)(g2:au (.ofNat gs.length) (.ofNat n)=false)(g3:au day 0=false)(g4:au 1048576 day=false)(hl:gs.length<2^20)(hR:R.length<2^20)(hn0:1≤n)(hn:n≤gs.length)(ha:R.any (fun x=>al x (.ofNat n))=false)(hk:RvC gs n day p u v true false D T R):kP 6 [.ls (gs.map ay),nV n,iV day,.str p] (.bool true):=by
  obtain⟨k1,k2,k3,k4,k5,k6,k7,k8⟩:=hk
  have rr0 b' (h:(true)=b':=by(exfalso;simp_all;done)):=h;exact bC Tryz.func6<|Kp 2 hw<|Kh 5 g1<|Kh 0 g1<|Kh 0 g1<|Kl 0 26 (ln ay gs)<|Mh g1<|Kw 0 g1<|Kh 0 g2<|Kh 0 g2<|Kw 0 g2<|Kh 0 g3<|Kh 0 g3<|Kw 0 g3<|Mh g4<|Kl 1 39 (we n)<|Kp 2 k1<|Kp 3 k2<|Mp k3<|Kp 4 k4<|Kl 0 54 (ln ak R)<|Mg 0<|JI ak R false [0,1,2,3,9,10,53,54,55] (fun a _ b=>([aW<|gs.map ay,nV n,iV day,aK p,dF true,dF b,aW<|R.map ak,nV R.length,nV a],[])) (fun a b=>(b||a.any fun a=>al a<|Int.ofNat n)=false) (by(exact ha)) (fun _ _ a _ _ _ b _=>Kh 0 b<|Kp 2 k5<|Kp 0 k6<|Kp 3 k7<|Kp 0 k8<|Kb 9 (a==false) (fun a=>Kt 0 a<|Kt 0 a<|Kh 0 (aq false)<|Mh (aq false)<|Mh (aq false)<|Mh (aq false)<|Mh (aq false)<|Mh (aq false)<|Mh (aq false)<|Mh (aq false)<|Mt a<|Kt 0 a<|Ku 0 a<|Kp 0 haw<|Kf 1<|bd<|dF true) fun a=>Mh a<|Mh a<|Mh a<|Mh a<|My a<|Ky 2<|rr0 false) fun a _ b _ _ c d e _ f _ g i=>Kt 0 f<|Mx g<|Kb 3 b (fun b=>Mt b<|Mt b<|MV b<|Kl 1 65 (g0 a)<|Kf 0<|e true<|by(rw[pg]at i;simp_all;done)) fun b=>Kh 0 b<|Kh 0 b<|Kw 0 b<|Kl 1 65 (g0 a)<|Kf 0<|e (al c<|Int.ofNat n)<|by(rw[pg]at i;simp_all;done)
theorem YN{day:Int}(g3:au day 0=false)(g4:au 1048576 day=false):Ea day=true:=by
  have:=aF g3;have:=aF g4
  unfold Ea;exact decide_eq_true (by omega)
theorem YF(a b:Int):au a b=decide (a<b):=by
  rw[vU,decide_eq_true_iff]
  exact⟨an,lX⟩
/-- The law of the revisions, whole. -/
theorem BE(gs:List PGaz)(n day:Int)(p:aO)(hf:pm gs)(haw:kP 18 [] (.bool true)):kP 6 [.ls (gs.map ay),iV n,iV day,.str p] (.bool true):=by
  have hw:=Rw gs p hf
  cases hb:NT gs p with
  |false=>rw[hb]at hw;exact YV gs n day p haw hw
  | true=>
    rw[hb]at hw
    have ok:=(Wg hf hb).1
    have hlen:=ok.len
    cases g1:au n 1 with
    |true=>exact ZR gs n day p haw hw g1
    |false=>
    cases g2:au (.ofNat gs.length) n with
    |true=>exact ZP gs n day p haw hw g1 g2
    |false=>
    cases g3:au day 0 with
    |true=>exact ZO gs n day p haw hw g1 g2 g3
    |false=>
    cases g4:au 1048576 day with
    |true=>exact ZN gs n day p haw hw g1 g2 g3 g4
    | false=>
      have z1:=aF g1
      have z2:=aF g2
      obtain⟨m,rfl⟩:∃m:Nat,n=.ofNat m:=⟨n.toNat,by simp only[oN];omega⟩
      simp only[oN]at z1 z2
      have hm0:1≤m:=by omega
      have hm:m≤gs.length:=by omega
      have oa:OkG (gs.take (m-1)):=ok.sub (by rw[pS];omega) fun g hg=>l0 hg
      have ob:OkG (gs.take m):=ok.sub (by rw[pS];omega) fun g hg=>l0 hg
      have hs:=Wz _ (uZ (oa.okB day p)) _ (uZ (ob.okB day p))
      have hD:=U8 (gs.take (m-1)) (gs.take m) p day
      rw[YN g3 g4,wx]at hD
      have hT:=Wx (gD gs (m-1)).day (EG (gs.take (m-1)) (gs.take m) p) day
      rw[hD,←YF]at hT
      have lD:=(jE (dg (rH (gs.take (m-1)) (gs.take m) p) (EE (gs.take (m-1)) (gs.take m)++[1048577]))).len
      have lT:=KN (gD gs (m-1)).day (EG (gs.take (m-1)) (gs.take m) p)
      have lD:(EG (gs.take (m-1)) (gs.take m) p).length≤1048577:=lD
      have hc:=Lr (EG (gs.take (m-1)) (gs.take m) p) day (by omega)
      have ht:=Lr (Cl (gD gs (m-1)).day (EG (gs.take (m-1)) (gs.take m) p)) day (by omega)
      have hR:=Wj gs p day (fun n=>rH (gs.take (n-1)) (gs.take n) p day) g3 g4 (by omega) fun n h1 h2=>F3 gs ok n day p h1 h2
      have hA:=KC (fun n=>rH (gs.take (n-1)) (gs.take n) p day) m gs.length 1
      rw[show decide (1≤m∧m<1+gs.length)=true from decide_eq_true (by omega),Bool.and_true]at hA
      have lR:=KB (fun n=>rH (gs.take (n-1)) (gs.take n) p day) gs.length 1
      have hk1:=uz gs ok (m-1) day p (by omega)
      have hk2:=uz gs ok m day p hm
      have hcd:=Jt gs ok m p hm0 hm
      have hrd:=TY gs m p _ hm0 hm (by omega) (by omega) (Fb gs m hm0 hm (by omega)) hcd
      rw[hD]at hc
      rw[hT]at ht
      cases ho:Ao (jZ day p (gs.take (m-1))) (jZ day p (gs.take m))with
      | false=>
        have e:rH (gs.take (m-1)) (gs.take m) p day=true:=by unfold rH;rw[ho];rfl
        rw[e]at hc hA;rw[e,wx]at ht;rw[ho]at hs
        exact ZL gs m day p _ _ _ _ _ haw hw g1 g2 g3 g4 (by omega) (by omega) hm0 hm hA ⟨hk1,hk2,hs,hR,hcd,hc,hrd,ht⟩
      | true=>
        have e:rH (gs.take (m-1)) (gs.take m) p day=false:=by unfold rH;rw[ho];rfl
        rw[e]at hc hA;rw[e,wj]at ht;rw[ho]at hs
        exact ZM gs m day p _ _ _ _ _ haw hw g1 g2 g3 g4 (by omega) (by omega) hm0 hm hA ⟨hk1,hk2,hs,hR,hcd,hc,hrd,ht⟩
end Go.Proofs.YtaepacpodblomaaGreatDoor
