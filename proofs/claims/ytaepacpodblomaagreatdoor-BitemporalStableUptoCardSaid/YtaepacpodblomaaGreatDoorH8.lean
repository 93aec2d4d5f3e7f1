/- Functions walked: what each of them answers, for Appending gazettes changes neither the book known after k gazettes nor the days that the k-th gazette changed (arguments of bulk at most 1048576): part 8. Conditions: those that each theorem names. -/
import Derived.Test.YtaepacpodblomaaGreatDoorH7
namespace Go.Proofs.YtaepacpodblomaaGreatDoor
open Go Go.Ev
noncomputable def Hn(s:PSpan):List Int:=match aF s.to 1048577 with|true=>[s.from_,s.to]|false=>[s.from_]
noncomputable def cG:List PSpan→List Int
  |[]=>[]
  |s::r=>Hn s++cG r
theorem Eh{s:PSpan}(h:aF s.to 1048577=true):Hn s=[s.from_,s.to]:=by simp only[Hn,h]
theorem Ei{s:PSpan}(h:aF s.to 1048577=false):Hn s=[s.from_]:=by simp only[Hn,h]
theorem RL(s:PSpan):(Hn s).length≤2:=by unfold Hn;cases aF s.to 1048577<;>simp
theorem DW:∀(l:List PSpan),(cG l).length≤2*l.length
  |[]=>ao _
  | s::r=>by
    have:=DW r;have:=RL s
    simp only[cG,lA,lC];omega
theorem BB(l:List PSpan)(hl:l.length<2^30):kP 52 [.ls (l.map aJ)] (.ls ((cG (fm l)).map av)):=by
  have hn:=gJ l hl
  have hq:=(jH l).len
  generalize fm l=N at *
  have rr0 b' (h:((cG N).map av)=b':=by first|rfl|exact aZ Jz _|(rw[hj0];rfl)|(rw[hj0.2.2];simp[cG])):=h;exact bD Tryz.func52<|Kp 2 hn<|Kl 0 8 (ln aJ N)<|Mg 0<|kn Nat Nat (List Int) aJ N [3,7,8,9] (fun a _=>([ah,aW<|N.map aJ,nV N.length,nV a],[])) (fun a _ b c d=>([aM 0 b 0 c none,aW<|N.map aJ,nV N.length,nV a],[aX 1 true b<|d.map av])) (fun a=>cG N=cG a) (fun a _ b c=>b=c.length∧c.length+2*a.length≤2^21+10∧cG N=c++cG a) (by rfl) (fun _ _ _ _ _ a hj0=>Kh 0 a<|Kf 1 (Le.lsn<|rr0 []:Le _ (ah))) (fun a _ b _ c d _ e f g _ i hj0=>Kt 0 g<|Mx i<|Ka 11 c.to 1048577 (fun _ _=>Kl 6 26 (dU a)<|Mg 0<|M0 (.ren [1,0] [] [3,7,8,9])<|M1 (.frz 1 [3,7,8,9]) (et rt ti)<|Mf<|e 1 2 [c.from_,c.to]<|by exact⟨rfl,by(have:=gZ b f;simp only[lC,lN]<;>(omega)),by rw[hj0,cG];first|rw[Eh (by assumption)]|rw[Ei (by assumption)]⟩) fun _ _=>Kl 0 26 (dU a)<|Mg 0<|M0 (.ren [1,0] [] [3,7,8,9])<|M1 (.frz 1 [3,7,8,9]) (et rt ti)<|Mf<|e 0 1 [c.from_]<|by exact⟨rfl,by(have:=gZ b f;simp only[lC,lN]<;>(omega)),by rw[hj0,cG];first|rw[Eh (by assumption)]|rw[Ei (by assumption)]⟩) (fun _ _ a b c _ _ _ d hj0=>Kh 0 d<|Mg 1<|M2 (.fsl 0 [] 2<|c.map av) ti (cZ (az a) (tA av c b (by(omega):(c).length=b))<|aZ Jz c)<|Ml 2 (eX (c.map av) false<|aZ Jz c)<|Mf<|bR<|rr0<|c.map av) fun a _ b c d _ _ e f _ g _ i _ j hj0=>Kt 0 i<|Mx j<|K1 6 .app (cZ (az b) (by(rw[lM];exact hj0.1):c=(d.map av).length) (by(have z:=hj0.2.1;refine cE (m:=2^22) ?_ ?_ ?_<;>first|(omega)|(simp only[lA,lC,lN]<;>(first|omega|(simp only[oN]at *;omega)))):small (c+1) 8=true))<|M1 (.obj 0<|aX 1 true (b+1)<|(d++[e.from_]).map av) (congrArg (aX 1 true<|b+1)<|cS (f:=av) (l:=d) (ws:=[e.from_]))<|Ka 3 e.to 1048577 (fun _ _=>K1 3 .app (cZ (az<|b+1) (by(simp only[lM,lA,lC,lN]<;>(omega)):c+1=((d++[e.from_]).map av).length) (by(have z:=hj0.2.1;refine cE (m:=2^22) ?_ ?_ ?_<;>first|(omega)|(simp only[lA,lC,lN]<;>(first|omega|(simp only[oN]at *;omega)))):small (c+1+1) 8=true))<|M1 (.obj 0<|aX 1 true (b+1+1)<|(d++[e.from_]++[e.to]).map av) (congrArg (aX 1 true<|b+1+1)<|cS (f:=av) (l:=d++[e.from_]) (ws:=[e.to]))<|Kl 1 26 (dU a)<|K1 0 (.frz 1 [3,7,8,9]) (et (tR 1 true (b+1+1) 1<|aZ Jz<|d++[e.from_]++[e.to]) ti)<|Mf<|g (b+1+1) (c+1+1) (d++[e.from_]++[e.to])<|by exact⟨by(simp only[lA,lC,lN]<;>(omega)),by(have z:=hj0.2.1;simp only[lA,lC,lN]at * <;>(omega)),by rw[hj0.2.2,cG];first|(rw[Eh (by assumption)];simp)|(rw[Ei (by assumption)];simp)⟩) fun _ _=>Kl 0 26 (dU a)<|K1 0 (.frz 1 [3,7,8,9]) (et (tR 1 true (b+1) 1<|aZ Jz<|d++[e.from_]) ti)<|Mf<|g (b+1) (c+1) (d++[e.from_])<|by exact⟨by(simp only[lA,lC,lN]<;>(omega)),by(have z:=hj0.2.1;simp only[lA,lC,lN]at * <;>(omega)),by rw[hj0.2.2,cG];first|(rw[Eh (by assumption)];simp)|(rw[Ei (by assumption)];simp)⟩
noncomputable abbrev na:AObj:=.row 1 false 0 [.ps [iV 0] true]
noncomputable abbrev kZ(i ep n:Nat):AObj:=.row 1 false 0 [.slice i ep 0 n none]
theorem DM{α:Type}{f:α→AV}{l:List α}(h:0<l.length):l.map f≠[]:=by
  intro e;have:=congrArg List.length e;simp at this;subst this;simp at h
theorem Vm(d:PDeed)(ss:List PSpan)(B:List Int)(m:List (Int×PStart))(hB:kP 52 [.ls (ss.map aJ)] (.ls (B.map av)))(hb:B.length=0):
    kD 51 [aq d,.ls (ss.map aJ),.ptr 0 0 0 0] (ab [na,bm m,de d]) (.tuple []) (ab [na,bm m,de d]):=by
  let q:=[aj [iV d.act,iV d.item,iV d.day,iV d.it.kind,aW (d.it.at_.map ak),aW (d.it.to.map ak),iV d.it.where_,iV d.it.nth_,iV d.it.unit.act,iV d.it.unit.item,iV d.it.unit.n,iV d.it.unit.kind,aV d.it.unit.label,aW (d.it.unit.head.map aQ),aW (d.it.unit.words.map aQ),aW (d.it.unit.kids.map aY),aW (d.it.old.map mT),aW (d.it.new.map mT),aV d.it.label,aV d.it.for_,iV d.it.start.kind,iV d.it.start.day,aV d.it.start.event,iV d.it.act,iV d.it.item,iV d.it.day,aV d.it.event,aW (d.it.by_.map Np)]];let q1:=AHeap.mk 4 (bC (ab [aX 1 false 0 [jJ [iV 0] true],AObj.map (ba ay m 0) m.length,aX 28 false 0 q,aX 28 false 0 q]) ([]) Tr.nil);let q2:=[iV 0];exact eS Tryz.func51 fun a=>Kp 2 hB<|Mw (.opv (jJ q2 true) q1<|.go 0<|.frz 3 [] .fin)<|xr rt rt (NS (f:=av) (l:=B) (sz:=1) (b:=8) (xs:=q2) (t:=true) (h:=q1) (by(omega):(B).length=0)) (jX rt (tM m.length 3<|af (f:=ay) (fun _=>rfl) m 0) rt ti) a
theorem Y5(d:PDeed)(ss:List PSpan)(B:List Int)(m:List (Int×PStart))(hB:kP 52 [.ls (ss.map aJ)] (.ls (B.map av)))(hb:0<B.length)(hb2:B.length<2^30):
    kD 51 [aq d,.ls (ss.map aJ),.ptr 0 0 0 0] (ab [na,bm m,de d]) (.tuple []) (ab [kZ 3 0 (([0]++B).map av).length,bm m,de d,mI 0 ([0]++B)]):=by
  let q:=List.map av ([0]++B);exact eS Tryz.func51 fun a=>Kp 2 hB<|M4 (.apx q) rt rt (et (by exact DM hb:List.map av B≠[])<|fM 1 av B fun _=>rfl) (et (et (az q) (by(refine cE (m:=2^32) ?_ ?_ ?_<;>first|(omega)|(simp only[lA,lM,lC,lN]<;>(omega))):small (([iV 0]).length+(B.map av).length) 8=true)) rt)<|Mg 0<|M2 (.ren [0,1,2,4,3] [1,4] []) (tN m.length<|af (f:=ay) (fun _=>rfl) m 0) (tS 1 true 0<|aZ Jz<|[0]++B)<|M1 (.frz 4 []) (xr (tR 1 true 0 4<|aZ Jz<|[0]++B) rt (tM m.length 4<|af (f:=ay) (fun _=>rfl) m 0) rt ti)<|Mf a
theorem Y4(d:PDeed)(ss:List PSpan)(B:List Int)(m:List (Int×PStart))(ep n:Nat)(out:List Int)(hB:kP 52 [.ls (ss.map aJ)] (.ls (B.map av)))(hb:B.length=0):
    kD 51 [aq d,.ls (ss.map aJ),.ptr 0 0 0 0] (ab [kZ 2 ep n,bm m,mI ep out,de d]) (.tuple []) (ab [kZ 2 ep n,bm m,mI ep out,de d]):=by
  let q:=[aj [iV d.act,iV d.item,iV d.day,iV d.it.kind,aW (d.it.at_.map ak),aW (d.it.to.map ak),iV d.it.where_,iV d.it.nth_,iV d.it.unit.act,iV d.it.unit.item,iV d.it.unit.n,iV d.it.unit.kind,aV d.it.unit.label,aW (d.it.unit.head.map aQ),aW (d.it.unit.words.map aQ),aW (d.it.unit.kids.map aY),aW (d.it.old.map mT),aW (d.it.new.map mT),aV d.it.label,aV d.it.for_,iV d.it.start.kind,iV d.it.start.day,aV d.it.start.event,iV d.it.act,iV d.it.item,iV d.it.day,aV d.it.event,aW (d.it.by_.map Np)]];let q1:=AHeap.mk 5 (bC (ab [aX 1 false 0 [aM 2 ep 0 n none],AObj.map (ba ay m 0) m.length,aX 1 true ep (out.map av),aX 28 false 0 q,aX 28 false 0 q]) ([2]) Tr.nil);exact eS Tryz.func51 fun a=>Kp 2 hB<|Mw (.opv (aM 2 ep 0 n none) q1<|.go 0<|.frz 4 [] .fin)<|xr rt (g0 (tR 1 true ep 5<|aZ Jz out) rt) (RO (f:=av) (l:=B) (sz:=1) (b:=8) (id:=2) (ep:=ep) (off:=0) (len:=n) (cap:=none) (h:=q1) (by(omega):(B).length=0)) (xr rt (tR 1 true ep 4<|aZ Jz out) (tM m.length 4<|af (f:=ay) (fun _=>rfl) m 0) rt ti) a
theorem Y3(d:PDeed)(ss:List PSpan)(B:List Int)(m:List (Int×PStart))(ep n:Nat)(out:List Int)(hB:kP 52 [.ls (ss.map aJ)] (.ls (B.map av)))(hb:0<B.length)(hn:n=out.length)(hn2:n+B.length<2^37):
    kD 51 [aq d,.ls (ss.map aJ),.ptr 0 0 0 0] (ab [kZ 2 ep n,bm m,mI ep out,de d]) (.tuple []) (ab [kZ 2 (ep+1) (n+(B.map av).length),bm m,mI (ep+1) (out++B),de d]):=by
  exact eS Tryz.func51 fun a=>Kp 2 hB<|M4 (.apx<|(out++B).map av) rt (g0 (tR 1 true ep 5<|aZ Jz out) rt) (et (by exact DM hb:List.map av B≠[])<|fM 1 av B fun _=>rfl) (et (cZ (az ep) (by(rw[lM];exact hn):n=(out.map av).length) (by(refine cE (m:=2^37) ?_ ?_ ?_<;>first|(omega)|(simp only[lA,lM,lC,lN]<;>(omega))):small (n+(B.map av).length) 8=true))<|cS (f:=av) (l:=out) (ws:=B))<|K1 0 (.frz 4 []) (xr rt (tR 1 true (ep+1) 4<|aZ Jz<|out++B) (tM m.length 4<|af (f:=ay) (fun _=>rfl) m 0) rt ti)<|Mf a
noncomputable def BA(m:List (Int×PStart))(ds:List PDeed)(d:PDeed):List Int:=match cC d.it.kind with|true=>cG (an (aB m d.act) d ds)|false=>[]
noncomputable def jc(m:List (Int×PStart))(ds:List PDeed):List PDeed→List Int
  |[]=>[]
  |d::r=>BA m ds d++jc m ds r
theorem AP(s:PStart)(d:PDeed)(l:List PDeed):kP 52 [.ls ((an s d l).map aJ)] (.ls ((cG (an s d l)).map av)):=by
  have hn:=ng s d l
  have h:=BB (an s d l) (l0 hn.len (by decide))
  have e:fm (an s d l)=an s d l:=(KC hn).symm
  rwa[e]at h
theorem wZ{m:List (Int×PStart)}{ds r:List PDeed}{d:PDeed}(h:cC d.it.kind=true):jc m ds (d::r)=cG (an (aB m d.act) d ds)++jc m ds r:=by simp only[jc,BA,h]
theorem Jb{m:List (Int×PStart)}{ds r:List PDeed}{d:PDeed}(h:cC d.it.kind=false):jc m ds (d::r)=jc m ds r:=by simp only[jc,BA,h,ph]
theorem qH(s:PStart)(d:PDeed)(l:List PDeed):(cG (an s d l)).length≤2^22:=by
  have h:=DW (an s d l);have:=(ng s d l).len;omega
theorem Qk{B:List Int}(h:B.isEmpty=true):B.length=0:=by rw[List.isEmpty_iff.1 h];rfl
theorem Vy{B:List Int}(h:B.isEmpty=false):0<B.length:=by
  cases B with
  |nil=>cases h
  |cons a r=>exact lT _
theorem He{B X:List Int}(h:B.isEmpty=true):B++X=X:=by rw[List.isEmpty_iff.1 h];rfl
theorem Xf(s:PStart)(d:PDeed)(l:List PDeed)(m:List (Int×PStart))(hb:By (cG (an s d l)).isEmpty true):kD 51 [aq d,.ls ((an s d l).map aJ),.ptr 0 0 0 0] (ab [na,bm m,de d]) (.tuple []) (ab [na,bm m,de d]):=Vm d _ _ m (AP s d l) (Qk hb)
theorem Xg(s:PStart)(d:PDeed)(l:List PDeed)(m:List (Int×PStart))(hb:(cG (an s d l)).isEmpty=true):kD 51 [aq d,.ls ((an s d l).map aJ),.ptr 0 0 0 0] (ab [na,bm m,de d]) (.tuple []) (ab [na,bm m,de d]):=Vm d _ _ m (AP s d l) (Qk hb)
theorem Xe(s:PStart)(d:PDeed)(l:List PDeed)(m:List (Int×PStart))(hb:By (cG (an s d l)).isEmpty false):kD 51 [aq d,.ls ((an s d l).map aJ),.ptr 0 0 0 0] (ab [na,bm m,de d]) (.tuple []) (ab [kZ 3 0 (([0]++cG (an s d l)).map av).length,bm m,de d,mI 0 ([0]++cG (an s d l))]):=Y5 d _ _ m (AP s d l) (Vy hb) (l0 (qH s d l) (by decide))
theorem Xd(s:PStart)(d:PDeed)(l:List PDeed)(m:List (Int×PStart))(ep n:Nat)(out:List Int)(hb:By (cG (an s d l)).isEmpty true):kD 51 [aq d,.ls ((an s d l).map aJ),.ptr 0 0 0 0] (ab [kZ 2 ep n,bm m,mI ep out,de d]) (.tuple []) (ab [kZ 2 ep n,bm m,mI ep out,de d]):=Y4 d _ _ m ep n out (AP s d l) (Qk hb)
theorem Xc(s:PStart)(d:PDeed)(l:List PDeed)(m:List (Int×PStart))(ep n:Nat)(out:List Int)(hb:By (cG (an s d l)).isEmpty false)(hn:n=out.length)(hn2:n<2^36):kD 51 [aq d,.ls ((an s d l).map aJ),.ptr 0 0 0 0] (ab [kZ 2 ep n,bm m,mI ep out,de d]) (.tuple []) (ab [kZ 2 (ep+1) (n+((cG (an s d l)).map av).length),bm m,mI (ep+1) (out++cG (an s d l)),de d]):=Y3 d _ _ m ep n out (AP s d l) (Vy hb) hn (by have:=qH s d l;omega)
noncomputable def bE(m:List (Int×PStart))(ds:List PDeed)(d:PDeed):Nat:=match(BA m ds d).isEmpty with|true=>0|false=>1
noncomputable def pD(m:List (Int×PStart))(ds:List PDeed):List PDeed→Nat
  |[]=>0
  |d::r=>bE m ds d+pD m ds r
theorem Y8{m:List (Int×PStart)}{ds:List PDeed}{d:PDeed}(h:cC d.it.kind=false):bE m ds d=0:=by simp only[bE,BA,h];rfl
theorem Y7{m:List (Int×PStart)}{ds:List PDeed}{d:PDeed}(h:cC d.it.kind=true)(h2:(cG (an (aB m d.act) d ds)).isEmpty=true):bE m ds d=0:=by simp only[bE,BA,h,h2]
theorem Y9{m:List (Int×PStart)}{ds:List PDeed}{d:PDeed}(h:cC d.it.kind=true)(h2:(cG (an (aB m d.act) d ds)).isEmpty=false):bE m ds d=1:=by simp only[bE,BA,h,h2]
/-- What the rounds are to tell: 'A' nothing yet, 'B' something. -/
structure BrkA(m:List (Int×PStart))(ds r:List PDeed):Prop where
  f:jc m ds ds=jc m ds r
  e:pD m ds ds=pD m ds r
structure BrkB(m:List (Int×PStart))(ds r:List PDeed)(ep n:Nat)(out:List Int):Prop where
  len:n=out.length
  small:out.length+2^22*r.length≤2^22*ds.length+1
  f:[0]++jc m ds ds=out++jc m ds r
  e:pD m ds ds=ep+1+pD m ds r
theorem BrkA.no{m:List (Int×PStart)}{ds r:List PDeed}{d:PDeed}(h:BrkA m ds (d::r))(ha:cC d.it.kind=false):BrkA m ds r:=⟨by rw[h.f,Jb ha],by rw[h.e];simp only[pD,Y8 ha,eO]⟩
theorem BrkA.nil{m:List (Int×PStart)}{ds r:List PDeed}{d:PDeed}(h:BrkA m ds (d::r))(ha:cC d.it.kind=true)(hb:(cG (an (aB m d.act) d ds)).isEmpty=true):BrkA m ds r:=⟨by rw[h.f,wZ ha,He hb],by rw[h.e];simp only[pD,Y7 ha hb,eO]⟩
theorem BrkA.new{m:List (Int×PStart)}{ds r:List PDeed}{d:PDeed}{n:Nat}(h:BrkA m ds (d::r))(hl:(d::r).length≤ds.length)(ha:cC d.it.kind=true)(hb:(cG (an (aB m d.act) d ds)).isEmpty=false)(hn:n=(([0]++cG (an (aB m d.act) d ds)).map av).length):BrkB m ds r 0 n ([0]++cG (an (aB m d.act) d ds)):=by
  have:=qH (aB m d.act) d ds
  refine⟨by rw[hn,lM],by(rw[lA];simp only[lC,lN]at *;omega),by rw[h.f,wZ ha,nY],by rw[h.e];show bE m ds d+pD m ds r=_;rw[Y9 ha hb]⟩
theorem BrkB.no{m:List (Int×PStart)}{ds r:List PDeed}{d:PDeed}{ep n:Nat}{out:List Int}(h:BrkB m ds (d::r) ep n out)(ha:cC d.it.kind=false):BrkB m ds r ep n out:=⟨h.len,by have:=h.small;simp only[lC]at this;omega,by rw[h.f,Jb ha],by rw[h.e];simp only[pD,Y8 ha,eO]⟩
theorem BrkB.nil{m:List (Int×PStart)}{ds r:List PDeed}{d:PDeed}{ep n:Nat}{out:List Int}(h:BrkB m ds (d::r) ep n out)(ha:cC d.it.kind=true)(hb:(cG (an (aB m d.act) d ds)).isEmpty=true):BrkB m ds r ep n out:=⟨h.len,by have:=h.small;simp only[lC]at this;omega,by rw[h.f,wZ ha,He hb],by rw[h.e];simp only[pD,Y7 ha hb,eO]⟩
theorem BrkB.new{m:List (Int×PStart)}{ds r:List PDeed}{d:PDeed}{ep n k:Nat}{out:List Int}(h:BrkB m ds (d::r) ep n out)(ha:cC d.it.kind=true)(hb:(cG (an (aB m d.act) d ds)).isEmpty=false)(hk:k=n+((cG (an (aB m d.act) d ds)).map av).length):BrkB m ds r (ep+1) k (out++cG (an (aB m d.act) d ds)):=by
  have:=qH (aB m d.act) d ds
  refine⟨by rw[hk,h.len,lM,lA],by(have:=h.small;simp only[lA,lC]at *;omega),by rw[h.f,wZ ha,nY],by rw[h.e];simp only[pD,Y9 ha hb];omega⟩
theorem BrkB.done{m:List (Int×PStart)}{ds:List PDeed}{ep n:Nat}{out:List Int}(h:BrkB m ds [] ep n out):ep=pD m ds ds-1∧n=([0]++jc m ds ds).length∧out=[0]++jc m ds ds:=by
  have e1:=h.f
  simp only[jc,dC]at e1
  have e2:=h.e
  simp only[pD]at e2
  exact⟨by omega,by rw[e1];exact h.len,e1.symm⟩
theorem NF(gs:List PGaz)(L:List PAct)(ds:List PDeed)(hL:L.length<10000)(hd:ds.length<10000)(ha:kP 67 [.ls (gs.map aK)] (.ls (L.map aa)))(hi:kP 68 [.ls (gs.map aK)] (.ls (ds.map aq)))(hE:jc (kR L []) ds ds=[]):
    kD 47 [.ls (gs.map aK),.func (.func 51) [] [.ptr 0 0 0 0]] (ab [na]) (.tuple []) (ab [na]):=by
  have hlk:=o9
  have hup:=qS
  have hno:∀{m:List (Int×PStart)}{r:List PDeed}{d:PDeed},jc m ds (d::r)=[]→cC d.it.kind=true→(cG (an (aB m d.act) d ds)).isEmpty=true:=fun h h2=>by
    rw[wZ h2]at h;rw[(List.append_eq_nil_iff.1 h).1];rfl
  let q1:=[jJ [iV 0] true];exact eS Tryz.func47 fun a=>Kp 2 ha<|Kl 0 13 (ln aa L)<|Mg 0<|OX aa L ([]:List (Int×PStart)) [0,1,4,12,13,14] (fun a _ b=>([aW<|gs.map aK,bw (bj 51) [] [bz 0 0 0 0],AV.map 1,aW<|L.map aa,nV L.length,nV a],[aX 1 false 0 [jJ [iV 0] true],AObj.map (ba ay b 0) b.length])) (fun a b=>kR L []=kR a b) (by rfl) (fun _ _ b _ _ _ c e=>Kh 0 c<|Kp 0 hi<|Kl 2 27 (ln aq ds)<|Mg 0<|Sy (0:Nat) ds () [1,4,7,26,27,28] (fun a _ _=>([bw (bj 51) [] [bz 0 0 0 0],AV.map 1,aW<|ds.map aq,aW<|ds.map aq,nV ds.length,nV a],[aX 1 false 0 [jJ [iV 0] true],AObj.map (ba ay b 0) b.length])) (fun a c _=>(ds).drop a=c∧jc b ds c=[]) (fun _ a _=>a.length) (et rfl<|by(rw[←show kR L []=b from e];exact hE)) fun c e f g i=>Mc e (fun c=>have e:=eB g.1 c;have:=gx (J:=fun a _=>jc b ds a=[]) (a:=f) c g.2;Kh 0 e<|M1 (.frz 1 []) (et rt ti)<|Mf a) fun a e j=>let k:=[aj [iV a.act,iV a.item,iV a.day,iV a.it.kind,aW<|a.it.at_.map ak,aW<|a.it.to.map ak,iV a.it.where_,iV a.it.nth_,iV a.it.unit.act,iV a.it.unit.item,iV a.it.unit.n,iV a.it.unit.kind,aV a.it.unit.label,aW<|a.it.unit.head.map aQ,aW<|a.it.unit.words.map aQ,aW<|a.it.unit.kids.map aY,aW<|a.it.old.map mT,aW<|a.it.new.map mT,aV a.it.label,aV a.it.for_,iV a.it.start.kind,iV a.it.start.day,aV a.it.start.event,iV a.it.act,iV a.it.item,iV a.it.day,aV a.it.event,aW<|a.it.by_.map Np]];have l:=eT g.1 j;have:=aA l;have n:=eA (enc:=aq) g.1 j;have f:=cV (J:=fun a _=>jc b ds a=[]) (a:=f) j g.2;Kt 0 l<|Mx n<|Kp 5 (jd a.it.kind)<|Mb (cC a.it.kind) (fun _=>K1 4 (.look<|aj [iV (aB b a.act).kind,iV (aB b a.act).day,aV (aB b a.act).event]) (hlk b a.act)<|Kp 1 (gj (aB b a.act) a ds<|by(omega))<|M3 (.efx true (eb [])<|ab [aX 1 false 0 q1,AObj.map (ba ay b 0) b.length,aX 28 false 0 k]) (jX rt (tM b.length 3<|af (f:=ay) (fun _=>rfl) b 0) rt ti) (jX (az<|some<|aX 28 false 0 k) (az<|some<|AObj.map (ba ay b 0) b.length) (az<|some<|aX 1 false 0 q1) ti) (Xg (aB b a.act) a ds b<|by exact hno f (by assumption))<|Kl 0 46 (dU c)<|K1 0 (.frz 2 [1,4,7,26,27,28]) (cZ (tM b.length 2<|af (f:=ay) (fun _=>rfl) b 0) rt ti)<|Mf<|i (c+1) e () (et (bW g.1 j)<|by(have z:=f;rw[wZ (by assumption)]at z;exact(List.append_eq_nil_iff.1 z).2))<|dh j) fun _=>Kl 0 46 (dU c)<|K1 0 (.frz 2 [1,4,7,26,27,28]) (cZ (tM b.length 2<|af (f:=ay) (fun _=>rfl) b 0) rt ti)<|Mf<|i (c+1) e () (et (bW g.1 j)<|by(have z:=f;rw[Jb (by assumption)]at z;exact z))<|dh j) fun a _ b _ _ c e f _ g _ i j=>Kt 0 g<|Mx i<|K1 7 (.upd (ba ay (g9 c.number c.start b) 0) (g9 c.number c.start b).length) (hup b c)<|Kl 0 23 (dU a)<|K1 0 (.frz 2 [0,1,4,12,13,14]) (cZ (tM (g9 c.number c.start b).length 2<|af (f:=ay) (fun _=>rfl) (g9 c.number c.start b) 0) rt ti)<|Mf<|f (g9 c.number c.start b)<|by exact j
def AL(gs:List PGaz)(L:List PAct)(x0:Nat×List PAct×List (Int×PStart)):Prop:=(L).drop x0.1=x0.2.1∧kR L []=kR x0.2.1 x0.2.2
noncomputable def qG(gs:List PGaz)(L:List PAct)(x0:Nat×List PAct×List (Int×PStart)):List AV×List AObj:=([AV.ls (gs.map aK),AV.func (Fn.func 51) [] [AV.ptr 0 0 0 0],AV.map 1,AV.ls (L.map aa),nV L.length,nV x0.1],[AObj.row 1 false 0 [AV.ps [iV 0] true],AObj.map (ba ay x0.2.2 0) x0.2.2.length])
def AH(ds:List PDeed)(x0:Nat×List PAct×List (Int×PStart))(x1:Nat×List PDeed×Unit):Prop:=(ds).drop x1.1=x1.2.1∧BrkA x0.2.2 ds x1.2.1
noncomputable def qF(ds:List PDeed)(x0:Nat×List PAct×List (Int×PStart))(x1:Nat×List PDeed×Unit):List AV×List AObj:=([AV.func (Fn.func 51) [] [AV.ptr 0 0 0 0],AV.map 1,AV.ls (ds.map aq),AV.ls (ds.map aq),nV ds.length,nV x1.1],[AObj.row 1 false 0 [AV.ps [iV 0] true],AObj.map (ba ay x0.2.2 0) x0.2.2.length])
def AG(ds:List PDeed)(x0:Nat×List PAct×List (Int×PStart))(x1:Nat×List PDeed×Nat×Nat×List Int):Prop:=(ds).drop x1.1=x1.2.1∧BrkB x0.2.2 ds x1.2.1 x1.2.2.1 x1.2.2.2.1 x1.2.2.2.2
noncomputable def AF(ds:List PDeed)(x0:Nat×List PAct×List (Int×PStart))(x1:Nat×List PDeed×Nat×Nat×List Int):List AV×List AObj:=([AV.func (Fn.func 51) [] [AV.ptr 0 0 0 0],AV.map 1,AV.ls (ds.map aq),AV.ls (ds.map aq),nV ds.length,nV x1.1],[AObj.row 1 false 0 [AV.slice 2 x1.2.2.1 0 x1.2.2.2.1 none],AObj.map (ba ay x0.2.2 0) x0.2.2.length,AObj.row 1 true x1.2.2.1 (x1.2.2.2.2.map av)])
theorem NE(gs:List PGaz)(L:List PAct)(ds:List PDeed)(hL:L.length<10000)(hd:ds.length<10000)(ha:kP 67 [.ls (gs.map aK)] (.ls (L.map aa)))(hi:kP 68 [.ls (gs.map aK)] (.ls (ds.map aq)))(hE:jc (kR L []) ds ds≠[]):
    kD 47 [.ls (gs.map aK),.func (.func 51) [] [.ptr 0 0 0 0]] (ab [na]) (.tuple []) (ab [kZ 1 (pD (kR L []) ds ds-1) ([0]++jc (kR L []) ds ds).length,mI (pD (kR L []) ds ds-1) ([0]++jc (kR L []) ds ds)]):=by
  have hlk:=o9
  have hup:=qS
  let q9:=eb [];let q11:=[jJ [iV 0] true];exact Oi Tryz.func47<|Kp 2 ha<|Kl 0 13 (ln aa L)<|Mg 0<|ML (Nat×List PAct×List (Int×PStart)) [0,1,4,12,13,14] (qG gs L) (AL gs L) (fun a=>a.2.1.length) (0,L,[]) (az<|qG gs L (0,L,[])) (et (rfl:List.drop 0 (L)=L) (by rfl:(kR L []=kR L []))) fun a b c=>let d:=some<|AObj.map (ba ay a.2.2 0) a.2.2.length;Mi (fun a b=>kR L []=kR a b) aa b (fun _ b c=>Kh 0 b<|Kp 0 hi<|Kl 2 27 (ln aq ds)<|Mg 0<|MM (Nat×List PDeed×Unit) (Nat×List PDeed×Nat×Nat×List Int) [1,4,7,26,27,28] (qF ds a) (AF ds a) (AH ds a) (AG ds a) (fun a=>a.2.1.length) (fun a=>a.2.1.length) (.inl (0,ds,())) (az<|qF ds a (0,ds,())) (et (rfl:List.drop 0 (ds)=ds) (by(exact⟨rfl,rfl⟩):(BrkA a.2.2 ds ds))) (fun b e f=>Mc b.2.1 (fun d=>have f:=eB e.1 d;have b:=gx (J:=fun b _=>BrkA a.2.2 ds b) (a:=b.2.2) d e.2;Kh 0 f<|Mw .abs (by exact hE (by rw[show kR L []=a.2.2 from c];exact b.f):False)) fun c g h=>let i:=[aj [iV c.act,iV c.item,iV c.day,iV c.it.kind,aW<|c.it.at_.map ak,aW<|c.it.to.map ak,iV c.it.where_,iV c.it.nth_,iV c.it.unit.act,iV c.it.unit.item,iV c.it.unit.n,iV c.it.unit.kind,aV c.it.unit.label,aW<|c.it.unit.head.map aQ,aW<|c.it.unit.words.map aQ,aW<|c.it.unit.kids.map aY,aW<|c.it.old.map mT,aW<|c.it.new.map mT,aV c.it.label,aV c.it.for_,iV c.it.start.kind,iV c.it.start.day,aV c.it.start.event,iV c.it.act,iV c.it.item,iV c.it.day,aV c.it.event,aW<|c.it.by_.map Np]];let j:=aj [iV (aB a.2.2 c.act).kind,iV (aB a.2.2 c.act).day,aV (aB a.2.2 c.act).event];let k:=List.map av<|[0]++cG (an (aB a.2.2 c.act) c ds);have l:=eT e.1 h;have:=aA l;have m:=eA (enc:=aq) e.1 h;have n:=cV (J:=fun b _=>BrkA a.2.2 ds b) (a:=b.2.2) h e.2;Kt 0 l<|Mx m<|Kp 5 (jd c.it.kind)<|Mb (cC c.it.kind) (fun _=>Ms (cG<|an (aB a.2.2 c.act) c ds).isEmpty (fun k=>K1 4 (.look j) (hlk a.2.2 c.act)<|Kp 1 (gj (aB a.2.2 c.act) c ds<|by(omega))<|M3 (.efx true q9<|ab [aX 1 false 0 q11,AObj.map (ba ay a.2.2 0) a.2.2.length,aX 28 false 0 i]) (jX rt (tM a.2.2.length 3<|af (f:=ay) (fun _=>rfl) a.2.2 0) rt ti) (jX (az<|some<|aX 28 false 0 i) (az d) (az<|some<|aX 1 false 0 q11) ti) (Xf (aB a.2.2 c.act) c ds a.2.2 k)<|Kl 0 46 (dU b.1)<|K1 0 (.frz 2 [1,4,7,26,27,28]) (cZ (tM a.2.2.length 2<|af (f:=ay) (fun _=>rfl) a.2.2 0) rt ti)<|Mf<|f (.inl (b.1+1,g,())) (et (bW e.1 h) (by exact n.nil (by assumption) (by assumption):(BrkA a.2.2 ds g)))<|dh h) fun d=>K1 4 (.look j) (hlk a.2.2 c.act)<|Kp 1 (gj (aB a.2.2 c.act) c ds<|by(omega))<|M3 (.efx false q9<|ab [aX 1 false 0 [aM 3 0 0 k.length none],AObj.map (ba ay a.2.2 0) a.2.2.length,aX 28 false 0 i,aX 1 true 0 k]) (jX rt (tM a.2.2.length 3<|af (f:=ay) (fun _=>rfl) a.2.2 0) rt ti) ti (Xe (aB a.2.2 c.act) c ds a.2.2 d)<|Kl 0 46 (dU b.1)<|Mg 0<|M2 (.ren [0,1,3,2] [1,3] [1,4,7,26,27,28]) (tN a.2.2.length<|af (f:=ay) (fun _=>rfl) a.2.2 0) (tS 1 true 0<|aZ Jz<|[0]++cG (an (aB a.2.2 c.act) c ds))<|M1 (.frz 3 [1,4,7,26,27,28]) (jX (tR 1 true 0 3<|aZ Jz<|[0]++cG (an (aB a.2.2 c.act) c ds)) (tM a.2.2.length 3<|af (f:=ay) (fun _=>rfl) a.2.2 0) rt ti)<|Mf<|f (.inr (b.1+1,g,(0,k.length,[0]++cG (an (aB a.2.2 c.act) c ds)))) (et (bW e.1 h) (by exact n.new (Ix (e.1.trans h)) (by assumption) (by assumption) rfl:(BrkB a.2.2 ds g (0:Nat) (([(0:Int)]++cG (an (aB a.2.2 c.act) c ds)).map av).length ([(0:Int)]++cG (an (aB a.2.2 c.act) c ds)))))<|dh h) fun _=>Kl 0 46 (dU b.1)<|K1 0 (.frz 2 [1,4,7,26,27,28]) (cZ (tM a.2.2.length 2<|af (f:=ay) (fun _=>rfl) a.2.2 0) rt ti)<|Mf<|f (.inl (b.1+1,g,())) (et (bW e.1 h) (by exact n.no (by assumption):(BrkA a.2.2 ds g)))<|dh h) fun b e f=>let g:=[aM 2 b.2.2.1 0 b.2.2.2.1 none];let h:=List.map av b.2.2.2.2;Mc b.2.1 (fun d=>have f:=eB e.1 d;have d:=gx (J:=fun b c=>BrkB a.2.2 ds b c.1 c.2.1 c.2.2) (a:=b.2.2) d e.2;Kh 0 f<|M2 (.ren [0,2,1] [2,1] []) (tS 1 true b.2.2.1<|aZ Jz b.2.2.2.2) (tN a.2.2.length<|af (f:=ay) (fun _=>rfl) a.2.2 0)<|M1 (.frz 2 []) (cZ (tR 1 true b.2.2.1 2<|aZ Jz b.2.2.2.2) rt ti)<|Mf<|et (az q9) (by(have q:=d.done;rw[show kR L []=a.2.2 from c,q.1,q.2.1,q.2.2]):(ab [AObj.row 1 false 0 [AV.slice 1 b.2.2.1 0 b.2.2.2.1 none],AObj.row 1 true b.2.2.1 (b.2.2.2.2.map av)])=(ab [kZ 1 (pD (kR L []) ds ds-1) ([0]++jc (kR L []) ds ds).length,mI (pD (kR L []) ds ds-1) ([0]++jc (kR L []) ds ds)]))) fun c i j=>let k:=[aj [iV c.act,iV c.item,iV c.day,iV c.it.kind,aW<|c.it.at_.map ak,aW<|c.it.to.map ak,iV c.it.where_,iV c.it.nth_,iV c.it.unit.act,iV c.it.unit.item,iV c.it.unit.n,iV c.it.unit.kind,aV c.it.unit.label,aW<|c.it.unit.head.map aQ,aW<|c.it.unit.words.map aQ,aW<|c.it.unit.kids.map aY,aW<|c.it.old.map mT,aW<|c.it.new.map mT,aV c.it.label,aV c.it.for_,iV c.it.start.kind,iV c.it.start.day,aV c.it.start.event,iV c.it.act,iV c.it.item,iV c.it.day,aV c.it.event,aW<|c.it.by_.map Np]];let l:=aj [iV (aB a.2.2 c.act).kind,iV (aB a.2.2 c.act).day,aV (aB a.2.2 c.act).event];let m:=List.map av<|cG<|an (aB a.2.2 c.act) c ds;have n:=eT e.1 j;have:=aA n;have o:=eA (enc:=aq) e.1 j;have p:=cV (J:=fun b c=>BrkB a.2.2 ds b c.1 c.2.1 c.2.2) (a:=b.2.2) j e.2;Kt 0 n<|Mx o<|Kp 5 (jd c.it.kind)<|Mb (cC c.it.kind) (fun _=>Ms (cG<|an (aB a.2.2 c.act) c ds).isEmpty (fun m=>K1 4 (.look l) (hlk a.2.2 c.act)<|Kp 1 (gj (aB a.2.2 c.act) c ds<|by(omega))<|M3 (.efx true q9<|ab [aX 1 false 0 g,AObj.map (ba ay a.2.2 0) a.2.2.length,aX 1 true b.2.2.1 h,aX 28 false 0 k]) (xr rt (tR 1 true b.2.2.1 4<|aZ Jz b.2.2.2.2) (tM a.2.2.length 4<|af (f:=ay) (fun _=>rfl) a.2.2 0) rt ti) (xr (az<|some<|aX 28 false 0 k) (az<|some<|aX 1 true b.2.2.1 h) (az d) (az<|some<|aX 1 false 0 g) ti) (Xd (aB a.2.2 c.act) c ds a.2.2 b.2.2.1 b.2.2.2.1 b.2.2.2.2 m)<|Kl 0 46 (dU b.1)<|K1 0 (.frz 3 [1,4,7,26,27,28]) (jX (tR 1 true b.2.2.1 3<|aZ Jz b.2.2.2.2) (tM a.2.2.length 3<|af (f:=ay) (fun _=>rfl) a.2.2 0) rt ti)<|Mf<|f (.inr (b.1+1,i,(b.2.2.1,b.2.2.2.1,b.2.2.2.2))) (et (bW e.1 j) (by exact p.nil (by assumption) (by assumption):(BrkB a.2.2 ds i b.2.2.1 b.2.2.2.1 b.2.2.2.2)))<|dh j) fun d=>K1 4 (.look l) (hlk a.2.2 c.act)<|Kp 1 (gj (aB a.2.2 c.act) c ds<|by(omega))<|M3 (.efx false q9<|ab [aX 1 false 0 [aM 2 (b.2.2.1+1) 0 (b.2.2.2.1+m.length) none],AObj.map (ba ay a.2.2 0) a.2.2.length,aX 1 true (b.2.2.1+1)<|(b.2.2.2.2++cG (an (aB a.2.2 c.act) c ds)).map av,aX 28 false 0 k]) (xr rt (tR 1 true b.2.2.1 4<|aZ Jz b.2.2.2.2) (tM a.2.2.length 4<|af (f:=ay) (fun _=>rfl) a.2.2 0) rt ti) ti (Xc (aB a.2.2 c.act) c ds a.2.2 b.2.2.1 b.2.2.2.1 b.2.2.2.2 d (by exact p.len)<|by(have z:=p.small;have z2:=p.len;have z3:=Ix (e.1.trans j);simp only[lC]at z z3;omega))<|Kl 0 46 (dU b.1)<|K1 0 (.frz 3 [1,4,7,26,27,28]) (jX (tR 1 true (b.2.2.1+1) 3<|aZ Jz<|b.2.2.2.2++cG (an (aB a.2.2 c.act) c ds)) (tM a.2.2.length 3<|af (f:=ay) (fun _=>rfl) a.2.2 0) rt ti)<|Mf<|f (.inr (b.1+1,i,(b.2.2.1+1,b.2.2.2.1+m.length,b.2.2.2.2++cG (an (aB a.2.2 c.act) c ds)))) (et (bW e.1 j) (by exact p.new (by assumption) (by assumption) rfl:(BrkB a.2.2 ds i (b.2.2.1+1) (b.2.2.2.1+m.length) (b.2.2.2.2++cG (an (aB a.2.2 c.act) c ds)))))<|dh j) fun _=>Kl 0 46 (dU b.1)<|K1 0 (.frz 3 [1,4,7,26,27,28]) (jX (tR 1 true b.2.2.1 3<|aZ Jz b.2.2.2.2) (tM a.2.2.length 3<|af (f:=ay) (fun _=>rfl) a.2.2 0) rt ti)<|Mf<|f (.inr (b.1+1,i,(b.2.2.1,b.2.2.2.1,b.2.2.2.2))) (et (bW e.1 j) (by exact p.no (by assumption):(BrkB a.2.2 ds i b.2.2.1 b.2.2.2.1 b.2.2.2.2)))<|dh j) fun d e f g _ h i=>Kt 0 g<|Mx h<|K1 7 (.upd (ba ay (g9 d.number d.start a.2.2) 0) (g9 d.number d.start a.2.2).length) (hup a.2.2 d)<|Kl 0 23 (dU a.1)<|K1 0 (.frz 2 [0,1,4,12,13,14]) (cZ (tM (g9 d.number d.start a.2.2).length 2<|af (f:=ay) (fun _=>rfl) (g9 d.number d.start a.2.2) 0) rt ti)<|Mf<|c (a.1+1,e,g9 d.number d.start a.2.2) (et (bW b.1 f) (by exact i:(kR L []=kR e (g9 d.number d.start a.2.2))))<|dh f
theorem GY(zs:List Int)(ep n:Nat)(hn:n=zs.length)(hz:0<zs.length)(hb:zs.length<2^40):
    kD 53 [.slice 1 ep 0 n none] (ab [kZ 1 ep n,mI ep zs]) (.tuple []) (ab [kZ 1 ep n,mI ep (bX zs)]):=by
  subst hn
  exact(r9 (Go.Proofs.Tryz.lsort.f5.enters rfl) (fun blk off cap zs w hH hb hs=>Go.Proofs.AnyM.slices_Sort_int Go.Proofs.Tryz.lsort blk off cap zs w hH hb hs) zs (h:=ab [kZ 1 ep zs.length,mI ep zs]) (id:=1) (op:=true) rfl hz (by omega)).mono fun v h ⟨h3,h4⟩=>⟨h3,h4.trans rfl⟩
theorem AQ(zs:List Int)(ep n:Nat)(hn:n=zs.length)(hz:0<zs.length)(hb:zs.length<2^40):
    kD 54 [.slice 1 ep 0 n none] (ab [kZ 1 ep n,mI ep zs]) (.slice 1 ep 0 (am zs).length none) (ab [kZ 1 ep n,mI ep (am zs++List.replicate (zs.length-(am zs).length) 0)]):=by
  subst hn
  exact(od (Go.Proofs.Tryz.lcompact.f43.enters rfl) (fun blk off cap zs w hH hb hs=>Go.Proofs.AnyG.slices_Compact_int Go.Proofs.Tryz.lcompact blk off cap zs w hH hb hs) zs (h:=ab [kZ 1 ep zs.length,mI ep zs]) (id:=1) (op:=true) rfl hz (by omega)).mono fun v h ⟨h3,h4⟩=>⟨h3,h4.trans rfl⟩
noncomputable def VK:Option (AV×AHeap)→Bool
  |some (.tuple [],_)=>true
  |_=>false
noncomputable def VJ:Option (AV×AHeap)→Bool
  |some (.ps [.int .i64 n] true,_)=>al n 0
  |_=>false
theorem UB{f:FuncId}{a:List AV}(k:Nat)(ht:ax a=0)(h:VK (fO C k f a AHeap.none)=true):kP f a (.tuple []):=by
  cases hx:fO C k f a AHeap.none with
  |none=>rw[hx]at h;cases h
  | some r=>
    obtain⟨v,h1⟩:=r
    rw[hx]at h
    have e:v=.tuple []:=by
      unfold VK at h
      split at h
      · rename_i q;cases q;rfl
      · cases h
    subst e
    exact kN fz ht rfl ((aL.of (ev k) hx).mono fun v1 _ e=>e.1)
theorem UA{f:FuncId}{a:List AV}(k:Nat)(ht:ax a=0)(h:VJ (fO C k f a AHeap.none)=true):ar Tryz.prog G f a (.ps [.int .i64 0] true):=by
  cases hx:fO C k f a AHeap.none with
  |none=>rw[hx]at h;cases h
  | some r=>
    obtain⟨v,h1⟩:=r
    rw[hx]at h
    have e:v=.ps [.int .i64 0] true:=by
      unfold VJ at h
      split at h
      · rename_i q;cases q;rw[jy h]
      · cases h
    subst e
    exact kN fz ht rfl ((aL.of (ev k) hx).mono fun v1 _ e=>e.1)
theorem O5:kP 53 [.ps [iV 0] true] (.tuple []):=UB 60 rfl (by kernel_rfl)
theorem Hk:ar Tryz.prog G 54 [.ps [.int .i64 0] true] (.ps [.int .i64 0] true):=UA 60 rfl (by kernel_rfl)
theorem Z2(gs:List PGaz)(hc:kD 47 [.ls (gs.map aK),.func (.func 51) [] [.ptr 0 0 0 0]] (ab [na]) (.tuple []) (ab [na])):kP 31 [.ls (gs.map aK)] (.ls (([0]:List Int).map av)):=by
  exact bD Tryz.func31<|Ke 5 hc<|Kp 0 O5<|Kp 0 Hk<|Kf 0 (eX [iV 0] _<|by rfl:Le _ (AV.ps [iV 0] true))
theorem rX(X:List Int):(bX X).length=X.length:=(List.mergeSort_perm X _).length_eq
theorem Z1(gs:List PGaz)(X:List Int)(k:Nat)(hz:0<X.length)(hb:X.length<2^40)(hc:kD 47 [.ls (gs.map aK),.func (.func 51) [] [.ptr 0 0 0 0]] (ab [na]) (.tuple []) (ab [kZ 1 k X.length,mI k X])):kP 31 [.ls (gs.map aK)] (.ls ((am (bX X)).map av)):=by
  have hs:=rX X
  have rr0 b' (h:((am (bX X)).map av)=b':=by(rw[List.take_left'];rfl)):=h;exact bD Tryz.func31<|Ke 5 hc<|Ke 0 (GY X k X.length (by(omega)) hz hb)<|Ke 0 (AQ (bX X) k X.length (by(omega)) (by(omega))<|by(omega))<|Mg 0<|M2 (.fsl 0 [] 2<|((am (bX X)++List.replicate ((bX X).length -(am<|bX X).length) 0).take (am<|bX X).length).map av) ti (cZ (az k) (wi (f:=av) (l:=am (bX X)++List.replicate ((bX X).length -(am<|bX X).length) 0) (n:=(am<|bX X).length))<|aZ Jz<|(am (bX X)++List.replicate ((bX X).length -(am<|bX X).length) 0).take (am<|bX X).length)<|Ml 2 (eX (((am (bX X)++List.replicate ((bX X).length -(am<|bX X).length) 0).take (am<|bX X).length).map av) false<|aZ Jz<|(am (bX X)++List.replicate ((bX X).length -(am<|bX X).length) 0).take (am<|bX X).length)<|Mf<|bR<|rr0<|((am (bX X)++List.replicate ((bX X).length -(am<|bX X).length) 0).take (am<|bX X).length).map av
theorem Hj:am (bX [0])=[0]:=by
  have e:bX [0]=[0]:=List.mergeSort_singleton 0
  rw[e];rfl
/-- The program's days: in order, each once. -/
theorem Y6(gs:List PGaz)(L:List PAct)(ds:List PDeed)(hL:L.length<10000)(hd:ds.length<10000)(ha:kP 67 [.ls (gs.map aK)] (.ls (L.map aa)))(hi:kP 68 [.ls (gs.map aK)] (.ls (ds.map aq))):
    kP 31 [.ls (gs.map aK)] (.ls ((am (bX ([0]++jc (kR L []) ds ds))).map av)):=by
  by_cases hE:jc (kR L []) ds ds=[]
  · have h:=Z2 gs (NF gs L ds hL hd ha hi hE)
    rw[hE]
    have e:am (bX ([0]++[]))=[0]:=Hj
    rw[e];exact h
  · have hl:∀(r:List PDeed),(jc (kR L []) ds r).length≤2^22*r.length:=by
      intro r
      induction r with
      |nil=>exact ao _
      | cons d r ih=>
        have h1:(BA (kR L []) ds d).length≤2^22:=by
          unfold BA
          cases cC d.it.kind
          · exact bM _
          · exact qH _ _ _
        simp only[jc,lA,lC];omega
    have:=hl ds
    exact Z1 gs ([0]++jc (kR L []) ds ds) (pD (kR L []) ds ds-1) (by simp) (by rw[lA];simp only[lC,lN];omega) (NE gs L ds hL hd ha hi hE)
/-- What the amendments' days begin and end; in order, each once. -/
noncomputable def Z3(gs:List PGaz):List Int:=jc (kR (gF gs) []) (pw gs) (pw gs)
noncomputable def m7(gs:List PGaz):List Int:=am (bX ([0]++Z3 gs))
theorem OkG.brk{gs:List PGaz}(h:OkG gs):kP 31 [.ls (gs.map aK)] (.ls ((m7 gs).map av)):=by
  have hl:=h.lens
  exact Y6 gs _ _ (by omega) (by omega) h.all.1 h.all.2
theorem Hm:∀{l:List PSpan},(∀s,s∈l→0≤s.from_∧s.from_<s.to∧s.to≤1048577)→∀z,z∈cG l→0≤z∧z<1048577
  | s::r,h,z,hz=>by
    have hs:=h s (fW ..)
    rw[cG]at hz
    rcases ie.1 hz with q|q
    · unfold Hn at q
      cases e:aF s.to 1048577<;>rw[e]at q
      · simp at q;omega
      · have:=aA e;simp at q;omega
    · exact Hm (fun x hx=>h x (fJ _ hx)) z q
theorem Lm(m:List (Int×PStart))(ds:List PDeed):∀(r:List PDeed)(z:Int),z∈jc m ds r→0≤z∧z<1048577
  | d::r,z,hz=>by
    rw[jc]at hz
    rcases ie.1 hz with q|q
    · unfold BA at q
      cases e:cC d.it.kind<;>rw[e]at q
      · cases q
      · exact Hm (ng _ _ _).ok z q
    · exact Lm m ds r z q
theorem xP{l:List Int}{z:Int}:z∈am (bX l)↔z∈l:=((tQ (oL l)).2 z).trans (ji l).mem_iff
theorem Dc(l:List Int):(am (bX l)).Pairwise (fun a b=>a<b):=(tQ (oL l)).1
theorem ya(gs:List PGaz):∀z,z∈m7 gs→0≤z∧z<1048577:=fun z hz=>by
  rcases ie.1 (xP.1 hz)with q|q
  · rw[pR]at q;omega
  · exact Lm _ _ _ z q
theorem Ja(gs:List PGaz):(0:Int)∈m7 gs:=xP.2 (wU _ (pR.2 rfl))
theorem WD{l:List Int}(hp:l.Pairwise (fun a b=>a<b))(hb:∀z,z∈l→0≤z)(h0:(0:Int)∈l):∃r,l=0::r:=by
  cases l with
  |nil=>cases h0
  | cons a r=>
    rcases fD.1 h0 with q|q
    · exact⟨r,by rw[←q]⟩
    · have:=(jx.1 hp).1 0 q
      have:=hb a (fW ..)
      omega
theorem zJ:∀{l:List Int}{lo hi:Int},l.Pairwise (fun a b=>a<b)→(∀z,z∈l→lo≤z∧z<hi)→lo≤hi→(Int.ofNat l.length)≤hi-lo
  |[],lo,hi,_,_,h=>by simp only[lN,oN];omega
  | a::r,lo,hi,hp,hb,h=>by
    obtain⟨h1,h2⟩:=jx.1 hp
    obtain⟨q1,q2⟩:=hb a (fW ..)
    have:=zJ (lo:=a+1) (hi:=hi) h2 (fun z hz=>⟨by have:=h1 z hz;omega,(hb z (fJ _ hz)).2⟩) (by omega)
    simp only[lC,oN]at *;omega
theorem uL(gs:List PGaz):(m7 gs).length≤1048577:=by
  have:=zJ (Dc _) (ya gs) (by omega)
  simp only[oN]at this
  show(am (bX ([0]++Z3 gs))).length≤_
  omega
/-- Two lists' books differ on a day; the days, as spans. -/
noncomputable def WQ(a b:List PGaz)(p:aP)(d:Int):Bool:=aw (yx (lf d p a) (lf d p b))
noncomputable def ND(a b:List PGaz):List Int:=am (bX (m7 a++m7 b))
noncomputable def YR(a b:List PGaz)(p:aP):List PSpan:=fm (dA (WQ a b p) (ND a b++[1048577]))
theorem XV(a b:List PGaz):∀z,z∈ND a b→0≤z∧z<1048577:=fun z hz=>by
  rcases ie.1 (xP.1 hz)with q|q
  · exact ya a z q
  · exact ya b z q
theorem Li(a b:List PGaz):(ND a b).length≤1048577:=by
  have:=zJ (Dc _) (XV a b) (by omega)
  simp only[oN]at this
  show(am (bX (m7 a++m7 b))).length≤_
  omega
theorem Ww(a b:Nat):KE (.ofNat a) (.ofNat b)=.ofNat (Nat.min a b):=by
  rw[DH,show Nat.min a b=min a b from rfl];simp only[oN];omega
theorem Yh{n:Nat}(h0:0<n)(hn:n<2^30):eg (wF 1 8 (iV 0) (ab []) (some .nils) (some (nV n)))=some (.val (.slice 0 0 0 n none) (ab [.row 1 true 0 (List.replicate n (iV 0))])):=by
  have e1:small n 8=true:=cE (m:=2^30) (by omega) (by decide) (by decide)
  have e2:Nat.ble 1 n=true:=qZ h0
  have e3:(List.replicate n (AV.int .i64 0)).length=n:=pg ..
  unfold wF F1
  simp only[e1,e2,Bool.true_and,show Nat.ble 1 1=true from rfl,show dl 1 [AV.int .i64 0]=true from rfl]
  unfold gL
  rw[e3];rfl
theorem Av(gs:List PGaz)(n:Nat)(hn:n≤gs.length)(hl:gs.length<2^30):kP 41 [nV n,.ls (gs.map aK)] (.ls ((gs.take n).map aK)):=by
  have e:Nat.min (Nat.max n 0) gs.length=n:=by show min (max n 0) gs.length=n;omega
  have rr0 b' (h:((gs.take n).map aK)=b':=by(rw[e])):=h;exact bD Tryz.func41<|Kl 3 7 (nZ (k:=IntKind.i64)<|P3 n 0)<|Kl 1 9 (ln aK gs)<|Kl 0 10 (nZ (k:=IntKind.i64)<|Ww (n.max 0) gs.length)<|M1 (.slp<|(gs.take<|(n.max 0).min gs.length).map aK) (cZ (hM 4 aK gs fun _=>rfl) (et (oA:0≤(n.max 0).min gs.length) (by(simp only[oN,lM,lS]at *;omega):(n.max 0).min gs.length≤(gs.map aK).length))<|JR (f:=aK) (l:=gs) (h:=(n.max 0).min gs.length))<|Kf 0<|bR<|rr0<|(gs.take<|(n.max 0).min gs.length).map aK
theorem uY(gs:List PGaz)(ok:OkG gs)(n:Nat)(day:Int)(p:aP)(hn:n≤gs.length):kP 19 [nV n,iV day,.str p,.ls (gs.map aK)] (eU (lf day p (gs.take n))):=by
  have hl:=ok.len
  have hf:=Av gs n hn (by omega)
  have hb:=(ok.sub (hs:=gs.take n) (by rw[rN];omega) fun g hg=>mf hg).book day p
  exact bD Tryz.func19<|Kp 4 hf<|Mp hb<|Kf 0<|bZ<|aj [iV (lf day p<|gs.take n).act,iV (lf day p<|gs.take n).item,iV (lf day p<|gs.take n).n,iV (lf day p<|gs.take n).kind,aV (lf day p<|gs.take n).label,aW<|List.map aQ (lf day p<|gs.take n).head,aW<|List.map aQ (lf day p<|gs.take n).words,aW<|List.map aY (lf day p<|gs.take n).kids]
theorem OH(gs:List PGaz)(n:Nat)(h1:1≤n)(hn:n≤gs.length)(hl:gs.length<2^30):kP 43 [nV n,.ls (gs.map aK)] (.bool true):=by
  have g1:aF (.ofNat n) 1=false:=kf (by simp only[oN];omega)
  have g2:aF (.ofNat gs.length) (.ofNat n)=false:=kf (by simp only[oN];omega)
  have rr0 b' (h:(true)=b':=by(simp only[aS,aw,bS, *];first|done|rfl)):=h;exact bD Tryz.func43<|Kt 3 (bF g1)<|Kt 0 (bF g1)<|Kt 0 (bF g1)<|Kl 0 10 (ln aK gs)<|Mt (bF g1)<|Ku 0 (bF g1)<|Kf 0<|cn<|rr0<|aw<|aF (Int.ofNat gs.length)<|Int.ofNat n
theorem Pi(gs:List PGaz)(ok:OkG gs)(n:Nat)(day:Int)(p:aP)(hn0:1≤n)(hn:n≤gs.length):kP 45 [nV n,iV day,.str p,.ls (gs.map aK)] (.bool (WQ (gs.take (n-1)) (gs.take n) p day)):=by
  have hl:=ok.len
  have ha:=uY gs ok (n-1) day p (by omega)
  have hb:=uY gs ok n day p hn
  have oa:=tP ((ok.sub (hs:=gs.take (n-1)) (by rw[rN];omega) fun g hg=>mf hg).okB day p)
  have ob:=tP ((ok.sub (hs:=gs.take n) (by rw[rN];omega) fun g hg=>mf hg).okB day p)
  have he:=Oo _ oa _ ob
  exact bD Tryz.func45<|Kl 2 10 (Bx n)<|Kp 2 ha<|Kp 3 hb<|Mp he<|Kf 1<|bZ<|dJ<|aw<|yx (lf day p<|gs.take<|n-1)<|lf day p<|gs.take n
theorem rv(n:Nat)(hp:0<n)(hn:n<2^30):kD 78 [.nils,nV n] (ab []) (.slice 0 0 0 0 none) (ab [.row 1 true 0 (List.replicate n (iV 0))]):=by
  let q:=iV 0;exact eS Tryz.func78 fun a=>Kl 10 14 (b7 (x:=Int.ofNat n-(0:Int)) (n:=n-0) fZ)<|Ka 2 0 (Int.ofNat<|n-0) (fun _ _=>Ko 4 (by exact Yh hp hn:eg (wF (1) (8) q (ab []) ((some (AV.nils))) ((some (nV (n-0)))))=some (ARes.val (AV.slice 0 0 0 n none) (ab [AObj.row 1 true 0 (List.replicate n q)])))<|Kf 5 a) fun _ _=>Mg 1<|Mw .abs (by(exfalso;(simp only[oN]at *;omega)):False)
theorem Vo{H:AHeap}{id sz ep off len n bt:Nat}{op:Bool}{xs new ys:List AV}{x:AV}(hg:H.get id=some (.row sz op ep xs))(hx:jO H x=some new)(hf:dl sz new=true)(hne:new≠[])(hl:off+len+new.length≤xs.length)(hs:small (len+new.length) bt=true)(e1:len+new.length=n)(e2:bv xs (off+len) new=ys):
    eg (cp sz bt H (some (.slice id ep off len none)) (some x))=some (.val (.slice id ep off n none) (H.put id (.row sz op ep ys))):=by
  subst e1
  cases new with
  |nil=>simp_all
  | cons y r=>
    simp_all[qZ,cp,fC,gU,eg]
theorem YT(X Y:List Int){n:Nat}(h:n=X.length+Y.length):bv (List.replicate n (iV 0)) 0 (X.map av)=X.map av++List.replicate Y.length (iV 0):=by
  subst h
  unfold bv
  rw[List.take_zero,ph,lM,eO,List.drop_replicate,Nat.add_sub_cancel_left]
theorem YS(X Y:List Int):bv (X.map av++List.replicate Y.length (iV 0)) X.length (Y.map av)=(X++Y).map av:=by
  unfold bv
  rw[List.take_left' (bG ..),BG (by simp),dC,lP]
theorem NA(X Y:List Int)(hx:X.length<2^22)(hy:Y.length<2^22)(hx0:0<X.length)(hy0:0<Y.length):kD 63 [.ps [.ls (X.map av),.ls (Y.map av)] true] (ab []) (.slice 0 0 0 (X.length+Y.length) none) (ab [mI 0 (X++Y)]):=by
  let q:=ab [aX 1 true 0 (X.map av++List.replicate Y.length (iV 0))];let q1:=aM 0 0 0 X.length none;exact eS Tryz.func63 fun a=>Mg 4<|M0 (.un 3)<|Kl 7 17 (ln av X)<|Kl 0 18 (b7 (x:=(0:Int)+Int.ofNat X.length) (n:=(0:Nat)+X.length) fZ)<|Kl 13 17 (ln av Y)<|Kl 0 18 (b7 (x:=Int.ofNat ((0:Nat)+X.length)+Int.ofNat Y.length) (n:=(0:Nat)+X.length+Y.length) fZ)<|Ke 8 (rv (0+X.length+Y.length) (by(omega))<|by(omega))<|Mg 3<|M0 (.un 3)<|Ko 6 (by exact Vo (new:=X.map av) rfl rfl (fp (sz:=1) (f:=av) (fun _=>rfl) X) (DM hx0) (by rw[lM,lR];omega) (cE (m:=2^30) (by rw[lM];omega) (by decide) (by decide)) (by rw[lM];omega) (YT X Y (by omega)):eg (cp (1) (8) (ab [AObj.row 1 true 0 (List.replicate (0+X.length+Y.length) (iV 0))]) ((some (AV.slice 0 0 0 0 none))) ((some (AV.ls (X.map av)))))=some (ARes.val q1 q))<|Ko 9 (by exact Vo (new:=Y.map av) rfl rfl (fp (sz:=1) (f:=av) (fun _=>rfl) Y) (DM hy0) (by rw[lA,lM,lM,lR];omega) (cE (m:=2^30) (by rw[lM];omega) (by decide) (by decide)) (by rw[lM]) (by rw[eO];exact YS X Y):eg (cp (1) (8) q ((some q1)) ((some (AV.ls (Y.map av)))))=some (ARes.val (AV.slice 0 0 0 (X.length+Y.length) none) (ab [AObj.row 1 true 0 ((X++Y).map av)])))<|Kf 6 a
theorem Ll(gs:List PGaz):0<(m7 gs).length:=List.length_pos_of_mem (Ja gs)
theorem P2:∀{l m:List Int},l.Pairwise (fun a b=>a<b)→(∀z,z∈l→z∈m)→l.length≤m.length
  |[],_,_,_=>bM _
  | a::r,m,hp,hs=>by
    obtain⟨p1,p2⟩:=jx.1 hp
    have ha:=hs a (fW ..)
    have ih:=P2 (m:=m.erase a) p2 fun z hz=>(List.mem_erase_of_ne (by have:=p1 z hz;omega)).2 (hs z (fJ _ hz))
    rw[List.length_erase_of_mem ha]at ih
    have:=List.length_pos_of_mem ha
    simp only[lC];omega
theorem YP(a b:List PGaz):(ND a b).length<(m7 a).length+(m7 b).length:=by
  obtain⟨r,hr⟩:=WD (Dc ([0]++Z3 b)) (fun z hz=>(ya b z hz).1) (Ja b)
  have hr:m7 b=0::r:=hr
  have:=P2 (l:=ND a b) (m:=m7 a++r) (Dc _) fun z hz=>by
    rcases ie.1 (xP.1 hz)with q|q
    · exact wU _ q
    · rw[hr]at q
      rcases fD.1 q with q|q
      · rw[q];exact wU _ (Ja a)
      · exact EM _ q
  rw[hr];simp only[lA,lC]at *;omega
/-- The row of the points, as the program leaves it. -/
noncomputable def XK(a b:List PGaz):List Int:=ND a b++List.replicate ((bX (m7 a++m7 b)).length -(ND a b).length) 0
theorem XJ(a b:List PGaz):(ND a b).length<(XK a b).length∧(XK a b).take (ND a b).length=ND a b:=by
  have:=YP a b
  have h2:(bX (m7 a++m7 b)).length=(m7 a).length+(m7 b).length:=by rw[rX,lA]
  refine⟨?_,List.take_left' rfl⟩
  unfold XK
  rw[lA,lR,h2];omega
theorem Xh{R B:List Int}(h:R.take B.length=B)(hl:B.length<R.length):(R.set B.length 1048577).take (B.length+1)=B++[1048577]:=by
  rw[xM (by rw[lS];exact hl),List.take_set_of_le (ao _),h,I1 hl,if_pos rfl]
theorem RF(gs:List PGaz)(n:Nat)(X Y:List Int)(hn0:1≤n)(hn:n≤gs.length)(hl:gs.length<2^30)(hf:kP 41 [nV n,.ls (gs.map aK)] (.ls ((gs.take n).map aK)))(hf1:kP 41 [nV (n-1),.ls (gs.map aK)] (.ls ((gs.take (n-1)).map aK)))
    (ha:kP 31 [.ls ((gs.take (n-1)).map aK)] (.ls (X.map av)))(hb:kP 31 [.ls ((gs.take n).map aK)] (.ls (Y.map av)))(hx0:0<X.length)(hy0:0<Y.length)(hx:X.length<2^22)(hy:Y.length<2^22):
    kD 44 [nV n,.ls (gs.map aK)] (ab []) (.slice 0 0 0 (am (bX (X++Y))).length none) (ab [mI 0 (am (bX (X++Y))++List.replicate ((bX (X++Y)).length -(am (bX (X++Y))).length) 0)]):=by
  have q1:(X++Y).length=X.length+Y.length:=dM ..
  have q2:=rX (X++Y)
  have hc:=NA X Y hx hy hx0 hy0
  generalize X++Y=Z at *
  exact eS Tryz.func44 fun a=>Kl 2 7 (Bx n)<|Kp 0 hf1<|Mp ha<|Kp 1 hf<|Mp hb<|Ke 0 hc<|Ke 1 (zT Z 0 (X.length+Y.length) (by(omega)) (by(omega))<|by(omega))<|Ke 0 (sK (bX Z) 0 (X.length+Y.length) (by(omega)) (by(omega))<|by(omega))<|Kf 0 a
theorem NI(gs:List PGaz)(ok:OkG gs)(n:Nat)(hn0:1≤n)(hn:n≤gs.length):
    kD 44 [nV n,.ls (gs.map aK)] (ab []) (.slice 0 0 0 (ND (gs.take (n-1)) (gs.take n)).length none) (ab [mI 0 (XK (gs.take (n-1)) (gs.take n))]):=by
  have hl:=ok.len
  have oa:OkG (gs.take (n-1)):=ok.sub (by rw[rN];omega) fun g hg=>mf hg
  have ob:OkG (gs.take n):=ok.sub (by rw[rN];omega) fun g hg=>mf hg
  have:=uL (gs.take (n-1));have:=uL (gs.take n)
  exact RF gs n _ _ hn0 hn (by omega) (Av gs n hn (by omega)) (Av gs (n-1) (by omega) (by omega)) oa.brk ob.brk (Ll _) (Ll _) (by omega) (by omega)
theorem VX{g:Int→Bool}{B E r:List Int}{w:Int}{i:Nat}(hE:E=B++[1048577])(hd:B.drop i=w::r)(hg:g w=true):dA g ((w::r)++[1048577])=⟨w,gD E (i+1)⟩::dA g (r++[1048577]):=by
  have hi:i<B.length:=by
    have:=congrArg List.length hd
    rw[wY,lC]at this;omega
  have e:E.drop (i+1)=r++[1048577]:=by
    rw[hE,List.drop_append_of_le_length (by omega),←yf,hd];rfl
  have z:=yk (show i+1<E.length by rw[hE,lA];simp only[lC,lN];omega)
  rw[e]at z
  cases r with
  | nil=>
    rw[ph]at z
    show dA g [w,1048577]=_
    rw[n7,hg,(List.cons.inj z).1];rfl
  | cons c r=>
    show dA g (w::c::(r++[1048577]))=_
    rw[n7,hg,←(List.cons.inj z).1];rfl
theorem VW{g:Int→Bool}{r:List Int}{w:Int}(hg:g w=false):dA g ((w::r)++[1048577])=dA g (r++[1048577]):=by
  cases r with
  |nil=>show dA g [w,1048577]=_;rw[n7,hg];rfl
  |cons c r=>show dA g (w::c::(r++[1048577]))=_;rw[n7,hg];rfl
theorem RK{E B:List Int}(h:E=B++[1048577]):E.take (E.length-1)=B:=by rw[h,lA];simp
def Bu(gs:List PGaz)(n:Nat)(p:aP)(B:List Int)(z8:List Int):Prop:=z8=B++[(1048577:Int)]
noncomputable def Bt(gs:List PGaz)(n:Nat)(p:aP)(B:List Int)(z8:List Int):List AV×List AObj:=([nV n,AV.str p,AV.ls (gs.map aK),AV.nils,AV.ls (z8.map av)],[])
def xA(gs:List PGaz)(n:Nat)(p:aP)(g:Int→Bool)(z8:List Int)(x0:Nat×List Int×Unit):Prop:=(z8.take (z8.length-1)).drop x0.1=x0.2.1∧dA g z8=dA g (x0.2.1++[(1048577:Int)])
noncomputable def pA(gs:List PGaz)(n:Nat)(p:aP)(g:Int→Bool)(z8:List Int)(x0:Nat×List Int×Unit):List AV×List AObj:=([nV n,AV.str p,AV.ls (gs.map aK),AV.nils,AV.ls (z8.map av),AV.ls ((z8.take (z8.length-1)).map av),nV (z8.take (z8.length-1)).length,nV x0.1],[])
def xu(gs:List PGaz)(n:Nat)(p:aP)(B:List Int)(g:Int→Bool)(z8:List Int)(x0:Nat×List Int×Nat×Nat×List PSpan):Prop:=(z8.take (z8.length-1)).drop x0.1=x0.2.1∧x0.2.2.2.1=x0.2.2.2.2.length∧dA g z8=x0.2.2.2.2++dA g (x0.2.1++[(1048577:Int)])∧x0.2.2.2.1+x0.2.1.length≤B.length
noncomputable def xt(gs:List PGaz)(n:Nat)(p:aP)(B:List Int)(g:Int→Bool)(z8:List Int)(x0:Nat×List Int×Nat×Nat×List PSpan):List AV×List AObj:=([nV n,AV.str p,AV.ls (gs.map aK),AV.slice 0 x0.2.2.1 0 x0.2.2.2.1 none,AV.ls (z8.map av),AV.ls ((z8.take (z8.length-1)).map av),nV (z8.take (z8.length-1)).length,nV x0.1],[AObj.row 2 true x0.2.2.1 (x0.2.2.2.2.map aJ)])
theorem NG(gs:List PGaz)(n:Nat)(p:aP)(R B:List Int)(g:Int→Bool)(hn0:1≤n)(hn:n≤gs.length)(hl:gs.length<2^30)(hB:B.length≤1048577)(hR:B.length<R.length)(hT:R.take B.length=B)(hR2:R.length<2^30)
    (hb:kD 44 [nV n,.ls (gs.map aK)] (ab []) (.slice 0 0 0 B.length none) (ab [mI 0 R]))
    (ht:kP 43 [nV n,.ls (gs.map aK)] (.bool true))
    (ho:∀d,kP 45 [nV n,iV d,.str p,.ls (gs.map aK)] (.bool (g d))):
    kP 22 [nV n,.str p,.ls (gs.map aK)] (.ls ((fm (dA g (B++[1048577]))).map aJ)):=by
  have rr0 b' (h:((fm (dA g (B++[1048577]))).map aJ)=b':=by first|rfl|(rw[←hz8,hj0];rfl)|(rw[←hz8,hj0.2.1];exact congrArg (fun x=>(fm x).map aJ) (dC _))):=h;let q:=List.map av ((R.set B.length 1048577).take (B.length+1));let q3:=[iV 1048577];exact bD Tryz.func22<|Kp 2 ht<|Mg 2<|Mj (List Int) [0,1,2,7,8] (Bt gs n p B) (Bu gs n p B) (fun a=>Ke 1 hb<|Mg 0<|Mw (.opv (aM 0 0 0 (B.length+1) none) (ab [aX 1 true 0<|(R.set B.length 1048577).map av])<|.go 0<|.fsl 0 [0,1,2,7] 8 q<|.le 8 (aW q) .fin)<|xr (Xn (sz:=1) (b:=8) (id:=0) (ep:=0) (len:=B.length) (op:=true) (h:=ab [aX 1 true 0<|R.map av]) (xs:=List.map av R) (new:=q3) (xs':=List.map av<|R.set B.length 1048577) (x:=jJ q3 true) (by kernel_rfl) (by kernel_rfl) rt (nT _ _) (b0 (by(omega):B.length+1≤(R).length)<|tV (bG ..).symm) (LG (f:=av) (g:=av) (fun _=>rfl) (l:=R) (k:=B.length) (w:=1048577) (by(omega):B.length<(R).length)) (by(refine cE (m:=2^31) ?_ ?_ ?_<;>first|omega|decide):small (B.length+1) 8=true)) ti (cZ (az 0) (wi (f:=av) (l:=R.set B.length 1048577) (n:=B.length+1))<|aZ Jz<|(R.set B.length 1048577).take<|B.length+1) (eX q false<|aZ Jz<|(R.set B.length 1048577).take<|B.length+1)<|a ((R.set B.length 1048577).take<|B.length+1) (by exact Xh hT hR:List.take (B.length+1) (R.set B.length (1048577:Int))=B++[(1048577:Int)])) fun a hz8=>have hz8:=hz8;have:a.length=B.length+1:=(by rw[hz8,lA];rfl);have b:(a.take (a.length-1)).length=a.length-1:=(by rw[rN];omega);Kl 2 22 (ln av a)<|Kl 0 23 (Bx a.length)<|M1 (.slp<|(a.take<|a.length-1).map av) (cZ (hM 1 av a fun _=>rfl) (et (oA:0≤a.length-1) (by(simp only[oN,lM,lS]at *;omega):a.length-1≤(a.map av).length))<|JR (f:=av) (l:=a) (h:=a.length-1))<|Kl 0 25 (ln av<|List.take (a.length-1) a)<|Mg 0<|MM (Nat×List Int×Unit) (Nat×List Int×Nat×Nat×List PSpan) [0,1,2,7,8,24,25,26] (pA gs n p g a) (xt gs n p B g a) (xA gs n p g a) (xu gs n p B g a) (fun x=>x.2.1.length) (fun x=>x.2.1.length) (.inl (0,List.take (a.length-1) a,())) (az<|pA gs n p g a (0,List.take (a.length-1) a,())) (et (rfl:List.drop 0 (a.take (a.length-1))=List.take (a.length-1) a) (by(rw[RK hz8,hz8]):(dA g a=dA g (a.take (a.length-1)++[(1048577:Int)])))) (fun c e f=>Mc c.2.1 (fun b=>have f:=eB e.1 b;have hj0:=gx (J:=fun b x=>dA g a=dA g (b++[(1048577:Int)])) (a:=c.2.2) b e.2;Kh 0 f<|Kp 0 qe<|Kf 0<|bR<|rr0<|(fm []).map aJ) fun i j k=>have l:=eT e.1 k;have:=aA l;have o:=eA (enc:=av) e.1 k;have hj0:=cV (J:=fun b x=>dA g a=dA g (b++[(1048577:Int)])) (a:=c.2.2) k e.2;Kt 0 l<|Kx 0 o<|Kp 6 (ho i)<|Mb (g i) (fun _=>Kl 4 40 (jq c.1)<|Mx (bK av (by(simp only[oN,lM,lS]at *;omega):c.1+1<(a).length))<|Kl 5 46 (jq c.1)<|Kf 0<|f (.inr (c.1+1,j,(0,1,[PSpan.mk i<|gD a<|c.1+1]))) (et (bW e.1 k) (by exact⟨rfl,by rw[hj0,VX hz8 (by have z:=e.1.trans k;rw[RK hz8]at z;exact z) (by assumption)];rfl,(by have z:=gZ e.1 k;rw[b]at z;show 1+j.length≤B.length;omega)⟩:((1:Nat)=[PSpan.mk i (gD a (c.1+1))].length∧dA g a=[PSpan.mk i (gD a (c.1+1))]++dA g (j++[(1048577:Int)])∧(1:Nat)+j.length≤B.length)))<|dh k) fun _=>Kl 0 46 (jq c.1)<|Kf 0<|f (.inl (c.1+1,j,())) (et (bW e.1 k) (by exact hj0.trans (VW (by assumption)):(dA g a=dA g (j++[(1048577:Int)]))))<|dh k) fun b c e=>let f:=List.map aJ b.2.2.2.2;Mc b.2.1 (fun e=>have i:=eB c.1 e;have hj0:=gx (J:=fun b x=>x.2.1=x.2.2.length∧dA g a=x.2.2++dA g (b++[(1048577:Int)])∧x.2.1+b.length≤B.length) (a:=b.2.2) e c.2;Kh 0 i<|Mg 0<|M2 (.fsl 0 [] 47 f) ti (cZ (az b.2.2.1) (tA aJ b.2.2.2.2 b.2.2.2.1 (by(omega):(b.2.2.2.2).length=b.2.2.2.1))<|aZ Ve b.2.2.2.2)<|Ml 47 (eX f false<|aZ Ve b.2.2.2.2)<|Mp (gJ b.2.2.2.2<|by(omega))<|Kf 0<|bR<|rr0<|(fm b.2.2.2.2).map aJ) fun f i j=>have k:=eT c.1 j;have:=aA k;have l:=eA (enc:=av) c.1 j;have hj0:=cV (J:=fun b x=>x.2.1=x.2.2.length∧dA g a=x.2.2++dA g (b++[(1048577:Int)])∧x.2.1+b.length≤B.length) (a:=b.2.2) j c.2;Kt 0 k<|Kx 0 l<|Kp 6 (ho f)<|Mb (g f) (fun _=>Kl 4 40 (jq b.1)<|Mx (bK av (by(simp only[oN,lM,lS]at *;omega):b.1+1<(a).length))<|K1 2 .app (cZ (az b.2.2.1) (by(rw[lM];exact hj0.1):b.2.2.2.1=(b.2.2.2.2.map aJ).length) (by(have z:=hj0.2.2;simp only[lC]at z;refine cE (m:=2^23) ?_ ?_ ?_<;>first|omega|decide):small (b.2.2.2.1+1) 16=true))<|M1 (.obj 0<|aX 2 true (b.2.2.1+1)<|(b.2.2.2.2++[PSpan.mk f<|gD a<|b.1+1]).map aJ) (congrArg (aX 2 true<|b.2.2.1+1)<|cS (f:=aJ) (l:=b.2.2.2.2) (ws:=[PSpan.mk f<|gD a<|b.1+1]))<|Kl 1 46 (jq b.1)<|Kf 0<|e (.inr (b.1+1,i,(b.2.2.1+1,b.2.2.2.1+1,b.2.2.2.2++[PSpan.mk f<|gD a<|b.1+1]))) (et (bW c.1 j) (by exact⟨by rw[lA,←hj0.1];rfl,by rw[hj0.2.1,VX hz8 (by have z:=c.1.trans j;rw[RK hz8]at z;exact z) (by assumption)];simp,by(have z:=hj0.2.2;simp only[lC]at z;omega)⟩:(b.2.2.2.1+1=(b.2.2.2.2++[PSpan.mk f (gD a (b.1+1))]).length∧dA g a=b.2.2.2.2++[PSpan.mk f (gD a (b.1+1))]++dA g (i++[(1048577:Int)])∧b.2.2.2.1+1+i.length≤B.length)))<|dh j) fun _=>Kl 0 46 (jq b.1)<|Kf 0<|e (.inr (b.1+1,i,(b.2.2.1,b.2.2.2.1,b.2.2.2.2))) (et (bW c.1 j) (by exact⟨hj0.1,by rw[hj0.2.1,VW (by assumption)],by(have z:=hj0.2.2;simp only[lC]at z;omega)⟩:(b.2.2.2.1=b.2.2.2.2.length∧dA g a=b.2.2.2.2++dA g (i++[(1048577:Int)])∧b.2.2.2.1+i.length≤B.length)))<|dh j
theorem AM(gs:List PGaz)(ok:OkG gs)(n:Nat)(p:aP)(hn0:1≤n)(hn:n≤gs.length):kP 22 [nV n,.str p,.ls (gs.map aK)] (.ls ((YR (gs.take (n-1)) (gs.take n) p).map aJ)):=by
  have hl:=ok.len
  have hr:=XJ (gs.take (n-1)) (gs.take n)
  have h2:(XK (gs.take (n-1)) (gs.take n)).length<2^30:=by
    have:=uL (gs.take (n-1));have:=uL (gs.take n)
    have e:(bX (m7 (gs.take (n-1))++m7 (gs.take n))).length=(m7 (gs.take (n-1))).length+(m7 (gs.take n)).length:=by rw[rX,lA]
    have:=Li (gs.take (n-1)) (gs.take n)
    unfold XK
    rw[lA,lR,e];omega
  exact NG gs n p (XK (gs.take (n-1)) (gs.take n)) (ND (gs.take (n-1)) (gs.take n)) _ hn0 hn (by omega) (Li _ _) hr.1 hr.2 h2 (NI gs ok n hn0 hn) (OH gs n hn0 hn (by omega)) fun d=>Pi gs ok n d p hn0 hn
theorem Q3(gs:List PGaz)(p:aP)(hf:ni gs):kP 17 [.ls (gs.map aK),.str p] (.bool (I8 gs p)):=by
  have rr0 b' (h:(I8 gs p)=b':=by simp only[I8,aS,aw,bS, *]):=h;exact bD Tryz.func17<|Kp 1 (Uz gs 24 hf oA oA)<|Kb 0 (Nf gs 24) (fun a=>Kt 0 a<|Kt 0 a<|Ku 0 a<|Kf 0<|cn<|rr0<|aw<|aF 60<|Int.ofNat<|List.length p) fun a=>Mh a<|Mh a<|My a<|Ky 0<|rr0 false
/-- What the law's last part calls. -/
structure RvC(gs:List PGaz)(n:Nat)(day:Int)(p:aP)(u v:TUnit)(one past:Bool)(D T:List PSpan)(R:List Int):Prop where
  b1:kP 19 [nV (n-1),iV day,.str p,.ls (gs.map aK)] (eU u)
  b2:kP 19 [nV n,iV day,.str p,.ls (gs.map aK)] (eU v)
  s:kP 20 [eU u,eU v] (.bool one)
  r:kP 23 [iV day,.str p,.ls (gs.map aK)] (.ls (R.map av))
  c:kP 22 [nV n,.str p,.ls (gs.map aK)] (.ls (D.map aJ))
  hc:kP 24 [.ls (D.map aJ),iV day] (.bool (aw one))
  t:kP 25 [nV n,.str p,.ls (gs.map aK)] (.ls (T.map aJ))
  ht:kP 24 [.ls (T.map aJ),iV day] (.bool past)
theorem PW(l:List PSpan)(hl:l.length<2^40):kP 21 [.ls (l.map aJ),.ls (l.map aJ)] (.bool true):=by
  have hr:∀x:Int,al x x=true:=bV
  have rr0 b' (h:(true)=b':=by(exfalso;first|omega|(simp_all;done))):=h;exact bD Tryz.func21<|Kl 2 7 (ln aJ l)<|Kl 1 9 (ln aJ l)<|Kc 0 (Int.ofNat l.length) (Int.ofNat l.length) (fun _ _=>Ky 0<|rr0 false) fun _ _=>Mg 0<|Sy (0:Nat) l () [0,1,5] (fun a _ _=>([aW<|l.map aJ,aW<|l.map aJ,nV a],[])) (fun a b _=>(l).drop a=b∧True) (fun _ a _=>a.length) (et rfl<|by(trivial)) fun a b c d e=>Mc b (fun a=>have b:=eB d.1 a;have:=gx (J:=fun _ _=>True) (a:=c) a d.2;Kl 2 13 (ln aJ l)<|Kh 0 b<|Kf 0<|bZ<|dJ true) fun b f g=>let i:=[iV b.from_,iV b.to];have j:=eT d.1 g;have:=aA j;have k:=eA (enc:=aJ) d.1 g;have:=cV (J:=fun _ _=>True) (a:=c) g d.2;Kl 2 13 (ln aJ l)<|Kt 0 j<|Kx 1 k<|Kx 2 k<|Kv 0 (u9 (d:=(Tryz.prog).underlying 84) (n:=2) (l:=(0,1)::(1,1)::[]) (xs:=i) (ys:=i) (H:=AHeap.mk 1000000 Tr.nil) rfl<|Vd rfl rfl (Vc b.from_)<|Vd rfl rfl (Vc b.to) rfl)<|Kl 2 16 (dU a)<|Kf 0<|e (a+1) f () (et (bW d.1 g)<|by trivial)<|dh g
theorem C8(gs:List PGaz)(p:aP)(hl:gs.length<2^30):kP 22 [nV 0,.str p,.ls (gs.map aK)] (.ls (([]:List PSpan).map aJ)):=by
  have ht:kP 43 [nV 0,.ls (gs.map aK)] (.bool false):=by
    exact wk Tryz.func43 (.go 5 .fin)<|bZ<|dJ false
  exact bD Tryz.func22<|Kp 2 ht<|Kf 2 bN
/-- What the law of what is known calls. -/
structure StaC(gs:List PGaz)(X:List AV)(n:Nat)(day:Int)(p:aP)(u:TUnit)(D:List PSpan):Prop where
  a:kP 19 [nV n,iV day,.str p,.ls (gs.map aK)] (eU u)
  b:kP 19 [nV n,iV day,.str p,.ls X] (eU u)
  c:kP 14 [iV day,.str p,.ls ((gs.take n).map aK)] (eU u)
  s:kP 20 [eU u,eU u] (.bool true)
  d:kP 22 [nV n,.str p,.ls (gs.map aK)] (.ls (D.map aJ))
  e:kP 22 [nV n,.str p,.ls X] (.ls (D.map aJ))
  t:kP 21 [.ls (D.map aJ),.ls (D.map aJ)] (.bool true)
theorem VN(gs ms:List PGaz)(k:Int)(day:Int)(p:aP)(b:Bool)(haw:kP 18 [] (.bool true))(hl:gs.length+ms.length≤1048576)(hg:0<gs.length)(hm:0<ms.length)(g1:aF k 0=true)(hw:kP 17 [.ls (gs.map aK++ms.map aK),.str p] (.bool b)):kP 5 [.ls (gs.map aK),.ls (ms.map aK),iV k,iV day,.str p] (.bool true):=by
  have q1:(gs.map aK).length=gs.length:=bG ..
  have q2:(ms.map aK).length=ms.length:=bG ..
  have q3:gs.map aK≠[]:=fun e=>by rw[e]at q1;simp at q1;omega
  have q4:ms.map aK≠[]:=fun e=>by rw[e]at q2;simp at q2;omega
  have q5:ax (gs.map aK++ms.map aK)=0:=by rw[←lP];exact aZ iE _
  exact bD Tryz.func5<|Mg 2<|M2 .apl (et (by assumption:List.map aK gs≠[])<|fM 4 aK gs fun _=>rfl) (by exact aD (m:=2097152) (by omega) (by decide) (by decide):small (gs.map aK).length 56=true)<|Mg 0<|M2 .apl (et (by assumption:List.map aK ms≠[])<|fM 4 aK ms fun _=>rfl) (cZ (az 0) (oA:(gs.map aK).length=(gs.map aK).length) (by exact aD (m:=2097152) (by omega) (by decide) (by decide):small ((gs.map aK).length+(ms.map aK).length) 56=true))<|M1 (.obj 0<|aX 4 true (0+1)<|(gs++ms).map aK) (congrArg (aX 4 true<|0+1)<|cS (f:=aK) (l:=gs) (ws:=ms))<|Mg 0<|M2 (.fsl 0 [0,2,3,4] 11<|(gs++ms).map aK) ti (cZ (az 1) (tA aK (gs++ms) ((gs.map aK).length+(ms.map aK).length) (by(simp;done):(gs++ms).length=(gs.map aK).length+(ms.map aK).length))<|aZ iE<|gs++ms)<|Ml 11 (eX ((gs++ms).map aK) false<|aZ iE<|gs++ms)<|Kp 1 (ar.onArgs (.cons (bR (by(simp;done):(gs.map aK++List.map aK ms)=((gs++ms).map aK)))<|lc .nil) hw:kP 17 [aW ((gs++ms).map aK),aV p] _)<|Kn 1 b (fun a=>Mt (bF a)<|MV (bF a)<|Kp 2 haw<|Kf 0<|bZ<|dJ true) fun a=>Kh 0 (bB a)<|Kw 0 (bB a)<|Kt 0 g1<|Mt g1<|Mt g1<|Mt g1<|MV g1<|Kp 0 haw<|Kf 0<|bZ<|dJ true
theorem XR(gs ms:List PGaz)(n:Nat)(day:Int)(p:aP)(u:TUnit)(D:List PSpan)(b:Bool)(haw:kP 18 [] (.bool true))(hl:gs.length+ms.length≤1048576)(hg:0<gs.length)(hm:0<ms.length)(hw:kP 17 [.ls (gs.map aK++ms.map aK),.str p] (.bool b))(hc:b=true→n≤gs.length→StaC gs (gs.map aK++ms.map aK) n day p u D):kP 5 [.ls (gs.map aK),.ls (ms.map aK),nV n,iV day,.str p] (.bool true):=by
  have q1:(gs.map aK).length=gs.length:=bG ..
  have q2:(ms.map aK).length=ms.length:=bG ..
  have q3:gs.map aK≠[]:=fun e=>by rw[e]at q1;simp at q1;omega
  have q4:ms.map aK≠[]:=fun e=>by rw[e]at q2;simp at q2;omega
  have q5:ax (gs.map aK++ms.map aK)=0:=by rw[←lP];exact aZ iE _
  have ca:=fun h1 h2=>(hc h1 h2).a
  have cb:=fun h1 h2=>(hc h1 h2).b
  have cc:=fun h1 h2=>(hc h1 h2).c
  have cs:=fun h1 h2=>(hc h1 h2).s
  have cd:=fun h1 h2=>(hc h1 h2).d
  have ce:=fun h1 h2=>(hc h1 h2).e
  have ct:=fun h1 h2=>(hc h1 h2).t
  exact bD Tryz.func5<|Mg 2<|M2 .apl (et (by assumption:List.map aK gs≠[])<|fM 4 aK gs fun _=>rfl) (by exact aD (m:=2097152) (by omega) (by decide) (by decide):small (gs.map aK).length 56=true)<|Mg 0<|M2 .apl (et (by assumption:List.map aK ms≠[])<|fM 4 aK ms fun _=>rfl) (cZ (az 0) (by(omega):(gs.map aK).length=(gs.map aK).length) (by exact aD (m:=2097152) (by omega) (by decide) (by decide):small ((gs.map aK).length+(ms.map aK).length) 56=true))<|M1 (.obj 0<|aX 4 true (0+1)<|(gs++ms).map aK) (congrArg (aX 4 true<|0+1)<|cS (f:=aK) (l:=gs) (ws:=ms))<|Mg 0<|M2 (.fsl 0 [0,2,3,4] 11<|(gs++ms).map aK) ti (cZ (az 1) (tA aK (gs++ms) ((gs.map aK).length+(ms.map aK).length) (by(simp;done):(gs++ms).length=(gs.map aK).length+(ms.map aK).length))<|aZ iE<|gs++ms)<|Ml 11 (eX ((gs++ms).map aK) false<|aZ iE<|gs++ms)<|Kp 1 (ar.onArgs (.cons (bR (by(simp;done):(gs.map aK++List.map aK ms)=((gs++ms).map aK)))<|lc .nil) hw:kP 17 [aW ((gs++ms).map aK),aV p] _)<|Kn 1 b (fun a=>Mt (bF a)<|MV (bF a)<|Kp 2 haw<|Kf 0<|bZ<|dJ true) fun a=>Kh 0 (bB a)<|Kw 0 (bB a)<|Kl 3 29 (ln aK gs)<|Ka 1 (Int.ofNat gs.length) (Int.ofNat n) (fun _ _=>Mp haw<|Kf 0<|bZ<|dJ true) fun _ _=>Kp 3 (ca a<|by(simp only[oN]at *;omega))<|Kp 5 (ar.onArgs (lc<|lc<|lc<|.cons (bR (by(simp;done):(gs.map aK++List.map aK ms)=((gs++ms).map aK))) .nil)<|cb a<|by(simp only[oN]at *;omega):kP 19 [nV n,iV day,aV p,aW ((gs++ms).map aK)] _)<|Kp 0 (cs a<|by(simp only[oN]at *;omega))<|K1 4 (.slp<|(gs.take n).map aK) (cZ (hM 4 aK gs fun _=>rfl) (et (oA:0≤n) (by(simp only[oN,lM,lS]at *;omega):n≤(gs.map aK).length))<|JR (f:=aK) (l:=gs) (h:=n))<|Mp (cc a<|by(simp only[oN]at *;omega))<|Kp 0 (cs a<|by(simp only[oN]at *;omega))<|Kp 4 (ar.onArgs (lc<|lc<|.cons (bR (by(simp;done):(gs.map aK++List.map aK ms)=((gs++ms).map aK))) .nil)<|ce a<|by(simp only[oN]at *;omega):kP 22 [nV n,aV p,aW ((gs++ms).map aK)] _)<|Kp 2 (cd a<|by(simp only[oN]at *;omega))<|Mp (ct a<|by(simp only[oN]at *;omega))<|Kp 1 haw<|Kf 1<|bZ<|dJ true
theorem VM(ms:List PGaz)(day:Int)(p:aP)(b:Bool)(haw:kP 18 [] (.bool true))(hl:ms.length≤1048576)(hm:0<ms.length)(hw:kP 17 [.ls (ms.map aK),.str p] (.bool b))(k:Int)(g1:aF k 0=true):kP 5 [.ls (([]:List PGaz).map aK),.ls (ms.map aK),iV k,iV day,.str p] (.bool true):=by
  have q2:(ms.map aK).length=ms.length:=bG ..
  have q4:ms.map aK≠[]:=fun e=>by rw[e]at q2;simp at q2;omega
  have q5:ax (ms.map aK)=0:=aZ iE _
  exact bD Tryz.func5<|Mg 4<|M2 .apl (et (by assumption:List.map aK ms≠[])<|fM 4 aK ms fun _=>rfl) (by exact aD (m:=2097152) (by omega) (by decide) (by decide):small (ms.map aK).length 56=true)<|Mg 0<|M2 (.fsl 0 [0,2,3,4] 11<|ms.map aK) ti (cZ (az 0) (tA aK ms (ms.map aK).length (by(omega):(ms).length=(ms.map aK).length))<|aZ iE ms)<|Ml 11 (eX (ms.map aK) false<|aZ iE ms)<|Kp 1 hw<|Kn 1 b (fun a=>Mt (bF a)<|MV (bF a)<|Kp 2 haw<|Kf 0<|bZ<|dJ true) fun a=>Kh 0 (bB a)<|Kw 0 (bB a)<|Kt 0 g1<|Mt g1<|Mt g1<|Mt g1<|MV g1<|Kp 0 haw<|Kf 0<|bZ<|dJ true
theorem VI(ms:List PGaz)(day:Int)(p:aP)(b:Bool)(haw:kP 18 [] (.bool true))(hl:ms.length≤1048576)(hm:0<ms.length)(hw:kP 17 [.ls (ms.map aK),.str p] (.bool b))(k:Int)(g1:aF k 0=false)(g2:aF 0 k=true):kP 5 [.ls (([]:List PGaz).map aK),.ls (ms.map aK),iV k,iV day,.str p] (.bool true):=by
  have q2:(ms.map aK).length=ms.length:=bG ..
  have q4:ms.map aK≠[]:=fun e=>by rw[e]at q2;simp at q2;omega
  have q5:ax (ms.map aK)=0:=aZ iE _
  exact bD Tryz.func5<|Mg 4<|M2 .apl (et (by assumption:List.map aK ms≠[])<|fM 4 aK ms fun _=>rfl) (by exact aD (m:=2097152) (by omega) (by decide) (by decide):small (ms.map aK).length 56=true)<|Mg 0<|M2 (.fsl 0 [0,2,3,4] 11<|ms.map aK) ti (cZ (az 0) (tA aK ms (ms.map aK).length (by(omega):(ms).length=(ms.map aK).length))<|aZ iE ms)<|Ml 11 (eX (ms.map aK) false<|aZ iE ms)<|Kp 1 hw<|Kn 1 b (fun a=>Mt (bF a)<|MV (bF a)<|Kp 2 haw<|Kf 0<|bZ<|dJ true) fun a=>Kh 0 (bB a)<|Kw 0 (bB a)<|Kh 0 g1<|Kh 0 g1<|Kh 0 g1<|Kh 0 g1<|Kw 0 g1<|Mt g2<|Mp haw<|Kf 0<|bZ<|dJ true
theorem XP(ms:List PGaz)(day:Int)(p:aP)(b:Bool)(haw:kP 18 [] (.bool true))(hl:ms.length≤1048576)(hm:0<ms.length)(hw:kP 17 [.ls (ms.map aK),.str p] (.bool b))(u:TUnit)(D:List PSpan)(hc:b=true→StaC [] (ms.map aK) 0 day p u D):kP 5 [.ls (([]:List PGaz).map aK),.ls (ms.map aK),iV 0,iV day,.str p] (.bool true):=by
  have q2:(ms.map aK).length=ms.length:=bG ..
  have q4:ms.map aK≠[]:=fun e=>by rw[e]at q2;simp at q2;omega
  have q5:ax (ms.map aK)=0:=aZ iE _
  have ca:=fun h1=>(hc h1).a
  have cb:=fun h1=>(hc h1).b
  have cc:=fun h1=>(hc h1).c
  have cs:=fun h1=>(hc h1).s
  have cd:=fun h1=>(hc h1).d
  have ce:=fun h1=>(hc h1).e
  have ct:=fun h1=>(hc h1).t
  have cf:b=true→kP 14 [iV day,.str p,.ps [] true] (eU u):=fun h1=>(hc h1).c.onArgs (.cons (Le.refl _) (.cons (Le.refl _) (.cons (Le.lsp rfl rfl) .nil)))
  exact bD Tryz.func5<|Mg 4<|M2 .apl (et (by assumption:List.map aK ms≠[])<|fM 4 aK ms fun _=>rfl) (by exact aD (m:=2097152) (by omega) (by decide) (by decide):small (ms.map aK).length 56=true)<|Mg 0<|M2 (.fsl 0 [0,2,3,4] 11<|ms.map aK) ti (cZ (az 0) (tA aK ms (ms.map aK).length (by(omega):(ms).length=(ms.map aK).length))<|aZ iE ms)<|Ml 11 (eX (ms.map aK) false<|aZ iE ms)<|Kp 1 hw<|Kn 1 b (fun a=>Mt (bF a)<|MV (bF a)<|Kp 2 haw<|Kf 0<|bZ<|dJ true) fun a=>Kh 0 (bB a)<|Kw 0 (bB a)<|Kp 10 (ca a)<|Kp 5 (cb a)<|Kp 0 (cs a)<|Kp 5 (cc a)<|Kp 0 (cs a)<|Kp 4 (ce a)<|Kp 2 (cd a)<|Mp (ct a)<|Kp 1 haw<|Kf 1<|bZ<|dJ true
theorem VH(gs:List PGaz)(day:Int)(p:aP)(b:Bool)(haw:kP 18 [] (.bool true))(hl:gs.length≤1048576)(hg:0<gs.length)(hw:kP 17 [.ls (gs.map aK),.str p] (.bool b))(k:Int)(g1:aF k 0=true):kP 5 [.ls (gs.map aK),.ls (([]:List PGaz).map aK),iV k,iV day,.str p] (.bool true):=by
  have q1:(gs.map aK).length=gs.length:=bG ..
  have q3:gs.map aK≠[]:=fun e=>by rw[e]at q1;simp at q1;omega
  have q5:ax (gs.map aK)=0:=aZ iE _
  exact bD Tryz.func5<|Mg 2<|M2 .apl (et (by assumption:List.map aK gs≠[])<|fM 4 aK gs fun _=>rfl) (by exact aD (m:=2097152) (by omega) (by decide) (by decide):small (gs.map aK).length 56=true)<|Mg 2<|M2 (.fsl 0 [0,2,3,4] 11<|gs.map aK) ti (cZ (az 0) (tA aK gs (gs.map aK).length (by(omega):(gs).length=(gs.map aK).length))<|aZ iE gs)<|Ml 11 (eX (gs.map aK) false<|aZ iE gs)<|Kp 1 hw<|Kn 1 b (fun a=>Mt (bF a)<|MV (bF a)<|Kp 2 haw<|Kf 0<|bZ<|dJ true) fun a=>Kh 0 (bB a)<|Kw 0 (bB a)<|Kt 0 g1<|Mt g1<|Mt g1<|Mt g1<|MV g1<|Kp 0 haw<|Kf 0<|bZ<|dJ true
theorem XO(gs:List PGaz)(day:Int)(p:aP)(b:Bool)(haw:kP 18 [] (.bool true))(hl:gs.length≤1048576)(hg:0<gs.length)(hw:kP 17 [.ls (gs.map aK),.str p] (.bool b))(n:Nat)(u:TUnit)(D:List PSpan)(hc:b=true→n≤gs.length→StaC gs (gs.map aK) n day p u D):kP 5 [.ls (gs.map aK),.ls (([]:List PGaz).map aK),nV n,iV day,.str p] (.bool true):=by
  have q1:(gs.map aK).length=gs.length:=bG ..
  have q3:gs.map aK≠[]:=fun e=>by rw[e]at q1;simp at q1;omega
  have q5:ax (gs.map aK)=0:=aZ iE _
  have ca:=fun h1 h2=>(hc h1 h2).a
  have cb:=fun h1 h2=>(hc h1 h2).b
  have cc:=fun h1 h2=>(hc h1 h2).c
  have cs:=fun h1 h2=>(hc h1 h2).s
  have cd:=fun h1 h2=>(hc h1 h2).d
  have ce:=fun h1 h2=>(hc h1 h2).e
  have ct:=fun h1 h2=>(hc h1 h2).t
  exact bD Tryz.func5<|Mg 2<|M2 .apl (et (by assumption:List.map aK gs≠[])<|fM 4 aK gs fun _=>rfl) (by exact aD (m:=2097152) (by omega) (by decide) (by decide):small (gs.map aK).length 56=true)<|Mg 2<|M2 (.fsl 0 [0,2,3,4] 11<|gs.map aK) ti (cZ (az 0) (tA aK gs (gs.map aK).length (by(omega):(gs).length=(gs.map aK).length))<|aZ iE gs)<|Ml 11 (eX (gs.map aK) false<|aZ iE gs)<|Kp 1 hw<|Kn 1 b (fun a=>Mt (bF a)<|MV (bF a)<|Kp 2 haw<|Kf 0<|bZ<|dJ true) fun a=>Kh 0 (bB a)<|Kw 0 (bB a)<|Kl 3 29 (ln aK gs)<|Ka 1 (Int.ofNat gs.length) (Int.ofNat n) (fun _ _=>Mp haw<|Kf 0<|bZ<|dJ true) fun _ _=>Kp 3 (cb a<|by(simp only[oN]at *;omega))<|Kp 5 (cb a<|by(simp only[oN]at *;omega))<|Kp 0 (cs a<|by(simp only[oN]at *;omega))<|K1 4 (.slp<|(gs.take n).map aK) (cZ (hM 4 aK gs fun _=>rfl) (et (oA:0≤n) (by(simp only[oN,lM,lS]at *;omega):n≤(gs.map aK).length))<|JR (f:=aK) (l:=gs) (h:=n))<|Mp (cc a<|by(simp only[oN]at *;omega))<|Kp 0 (cs a<|by(simp only[oN]at *;omega))<|Kp 4 (ce a<|by(simp only[oN]at *;omega))<|Kp 2 (ce a<|by(simp only[oN]at *;omega))<|Mp (ct a<|by(simp only[oN]at *;omega))<|Kp 1 haw<|Kf 1<|bZ<|dJ true
theorem VG(day:Int)(p:aP)(b:Bool)(haw:kP 18 [] (.bool true))(hw:kP 17 [.ls (([]:List AV)),.str p] (.bool b))(k:Int)(g1:aF k 0=true):kP 5 [.ls (([]:List PGaz).map aK),.ls (([]:List PGaz).map aK),iV k,iV day,.str p] (.bool true):=by
  exact bD Tryz.func5<|Kl 6 11 (eX [] true (az 0:ax ([])=0))<|Kp 1 hw<|Kn 1 b (fun a=>Mt (bF a)<|MV (bF a)<|Kp 2 haw<|Kf 0<|bZ<|dJ true) fun a=>Kh 0 (bB a)<|Kw 0 (bB a)<|Kt 0 g1<|Mt g1<|Mt g1<|Mt g1<|MV g1<|Kp 0 haw<|Kf 0<|bZ<|dJ true
theorem VE(day:Int)(p:aP)(b:Bool)(haw:kP 18 [] (.bool true))(hw:kP 17 [.ls (([]:List AV)),.str p] (.bool b))(k:Int)(g1:aF k 0=false)(g2:aF 0 k=true):kP 5 [.ls (([]:List PGaz).map aK),.ls (([]:List PGaz).map aK),iV k,iV day,.str p] (.bool true):=by
  exact bD Tryz.func5<|Kl 6 11 (eX [] true (az 0:ax ([])=0))<|Kp 1 hw<|Kn 1 b (fun a=>Mt (bF a)<|MV (bF a)<|Kp 2 haw<|Kf 0<|bZ<|dJ true) fun a=>Kh 0 (bB a)<|Kw 0 (bB a)<|Kh 0 g1<|Kh 0 g1<|Kh 0 g1<|Kh 0 g1<|Kw 0 g1<|Mt g2<|Mp haw<|Kf 0<|bZ<|dJ true
theorem XN(day:Int)(p:aP)(b:Bool)(haw:kP 18 [] (.bool true))(hw:kP 17 [.ls (([]:List AV)),.str p] (.bool b))(u:TUnit)(D:List PSpan)(hc:b=true→StaC [] [] 0 day p u D):kP 5 [.ls (([]:List PGaz).map aK),.ls (([]:List PGaz).map aK),iV 0,iV day,.str p] (.bool true):=by
  have ca:=fun h1=>(hc h1).a
  have cb:=fun h1=>(hc h1).b
  have cc:=fun h1=>(hc h1).c
  have cs:=fun h1=>(hc h1).s
  have cd:=fun h1=>(hc h1).d
  have ce:=fun h1=>(hc h1).e
  have ct:=fun h1=>(hc h1).t
  have cf:b=true→kP 14 [iV day,.str p,.ps [] true] (eU u):=fun h1=>(hc h1).c.onArgs (.cons (Le.refl _) (.cons (Le.refl _) (.cons (Le.lsp rfl rfl) .nil)))
  exact bD Tryz.func5<|Kl 6 11 (eX [] true (az 0:ax ([])=0))<|Kp 1 hw<|Kn 1 b (fun a=>Mt (bF a)<|MV (bF a)<|Kp 2 haw<|Kf 0<|bZ<|dJ true) fun a=>Kh 0 (bB a)<|Kw 0 (bB a)<|Kp 10 (cb a)<|Kp 5 (cb a)<|Kp 0 (cs a)<|Kp 5 (cc a)<|Kp 0 (cs a)<|Kp 4 (ce a)<|Kp 2 (ce a)<|Mp (ct a)<|Kp 1 haw<|Kf 1<|bZ<|dJ true
noncomputable def VO(gs:List PGaz)(n:Nat)(p:aP):List PSpan:=match n with|0=>[]|m+1=>YR (gs.take m) (gs.take (m+1)) p
theorem XM{gs ms:List PGaz}(ok:OkG (gs++ms))(n:Nat)(day:Int)(p:aP)(hn:n≤gs.length):StaC gs (gs.map aK++ms.map aK) n day p (lf day p (gs.take n)) (VO gs n p):=by
  have hlen:=ok.len
  rw[lA]at hlen
  have oka:OkG gs:=ok.sub (by omega) fun g hg=>wU _ hg
  have okn:OkG (gs.take n):=oka.sub (by rw[rN];omega) fun g hg=>mf hg
  have et:∀m,m≤n→(gs++ms).take m=gs.take m:=fun m hm=>List.take_append_of_le_length (by omega)
  have hb:=uY (gs++ms) ok n day p (by rw[lA];omega)
  rw[et n (ao _),lP]at hb
  have hD:(VO gs n p).length<2^40:=by
    cases n with
    |zero=>exact(by decide:(0:Nat)<2^40)
    | succ m=>
      have z:=(jH (dA (WQ (gs.take m) (gs.take (m+1)) p) (ND (gs.take m) (gs.take (m+1))++[1048577]))).len
      exact l0 z (by decide)
  refine⟨uY gs oka n day p hn,hb,okn.book day p,PX _ (okn.okB day p),?_,?_,PW _ hD⟩
  · cases n with
    |zero=>exact C8 gs p (by omega)
    |succ m=>exact AM gs oka (m+1) p (by omega) hn
  · rw[←lP]
    cases n with
    |zero=>exact C8 (gs++ms) p (by rw[lA];omega)
    | succ m=>
      have h:=AM (gs++ms) ok (m+1) p (by omega) (by rw[lA];omega)
      rw[Nat.add_sub_cancel,et m (by omega),et (m+1) (ao _)]at h
      exact h
/-- The law of what is known, whole. -/
theorem IZ(gs ms:List PGaz)(k day:Int)(p:aP)(hf:ni gs)(hf2:ni ms)(hl:gs.length+ms.length≤1048576)(haw:kP 18 [] (.bool true)):kP 5 [.ls (gs.map aK),.ls (ms.map aK),iV k,iV day,.str p] (.bool true):=by
  have fa:ni (gs++ms):=⟨by rw[lA];exact l0 hl (by decide),fun g hg=>by
    rcases ie.1 hg with h|h
    · exact hf.2 g h
    · exact hf2.2 g h⟩
  have hw:=Q3 (gs++ms) p fa
  have hc:∀n,I8 (gs++ms) p=true→n≤gs.length→StaC gs (gs.map aK++ms.map aK) n day p (lf day p (gs.take n)) (VO gs n p):=fun n hb hn=>XM (WK fa hb).1 n day p hn
  generalize I8 (gs++ms) p=b at hw hc
  rw[lP]at hw
  have hk:aF k 0=false→∃n:Nat,k=.ofNat n:=fun h=>⟨k.toNat,by have:=aG h;simp only[oN];omega⟩
  cases gs with
  | nil=>
    cases ms with
    | nil=>
      cases g1:aF k 0 with
      |true=>exact VG day p b haw hw k g1
      | false=>
        cases g2:aF 0 k with
        |true=>exact VE day p b haw hw k g1 g2
        | false=>
          have:=aG g1;have:=aG g2
          obtain rfl:k=0:=by omega
          exact XN day p b haw hw _ _ fun h=>hc 0 h (ao _)
    | cons m r=>
      rw[rH,ph]at hw
      cases g1:aF k 0 with
      |true=>exact VM (m::r) day p b haw (by simpa using hl) (lT _) hw k g1
      | false=>
        cases g2:aF 0 k with
        |true=>exact VI (m::r) day p b haw (by simpa using hl) (lT _) hw k g1 g2
        | false=>
          have:=aG g1;have:=aG g2
          obtain rfl:k=0:=by omega
          exact XP (m::r) day p b haw (by simpa using hl) (lT _) hw _ _ fun h=>hc 0 h (ao _)
  | cons g t=>
    cases ms with
    | nil=>
      rw[rH,dC]at hw
      cases g1:aF k 0 with
      |true=>exact VH (g::t) day p b haw (by simpa using hl) (lT _) hw k g1
      | false=>
        obtain⟨n,rfl⟩:=hk g1
        exact XO (g::t) day p b haw (by simpa using hl) (lT _) hw n _ _ fun h h2=>by have z:=hc n h h2;rw[rH,dC]at z;exact z
    | cons m r=>
      cases g1:aF k 0 with
      |true=>exact VN (g::t) (m::r) k day p b haw hl (lT _) (lT _) g1 hw
      | false=>
        obtain⟨n,rfl⟩:=hk g1
        exact XR (g::t) (m::r) n day p _ _ b haw hl (lT _) (lT _) hw fun h h2=>hc n h h2
end Go.Proofs.YtaepacpodblomaaGreatDoor
