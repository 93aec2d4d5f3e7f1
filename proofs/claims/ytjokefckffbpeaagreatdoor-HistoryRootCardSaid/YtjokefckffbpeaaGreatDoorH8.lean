/- Functions walked: what each of them answers, for the law of the book's root: part 8. Conditions: those that each theorem names. -/
import Derived.Test.YtjokefckffbpeaaGreatDoorH7
namespace Go.Proofs.YtjokefckffbpeaaGreatDoor
open Go Go.Ev
noncomputable def Hd(s:PSpan):List Int:=match aC s.to 1048577 with|true=>[s.from_,s.to]|false=>[s.from_]
noncomputable def cC:List PSpan→List Int
  |[]=>[]
  |s::r=>Hd s++cC r
theorem EJ{s:PSpan}(h:aC s.to 1048577=true):Hd s=[s.from_,s.to]:=by simp only[Hd,h]
theorem EK{s:PSpan}(h:aC s.to 1048577=false):Hd s=[s.from_]:=by simp only[Hd,h]
theorem RS(s:PSpan):(Hd s).length≤2:=by unfold Hd;cases aC s.to 1048577<;>simp
theorem CT:∀(l:List PSpan),(cC l).length≤2*l.length
  |[]=>ao _
  | s::r=>by
    have:=CT r;have:=RS s
    simp only[cC,lA,lC];omega
theorem Bd(l:List PSpan)(hl:l.length<2^30):kP 44 [.ls (l.map aJ)] (.ls ((cC (iX l)).map ak)):=by
  have hn:=gN l hl
  have hq:=(kM l).len
  generalize iX l=N at *
  have rr0 b' (h:((cC N).map ak)=b':=by first|rfl|exact aX JK _|(rw[hj0];rfl)|(rw[hj0.2.2];simp[cC])):=h;exact bI Tryz.func44<|Kp 2 hn<|Kl 0 8 (ln aJ N)<|Mg 0<|kg Nat Nat (List Int) aJ N [3,7,8,9] (fun a _=>([ay,aW<|N.map aJ,nV N.length,nV a],[])) (fun a _ b c d=>([aD 0 b 0 c none,aW<|N.map aJ,nV N.length,nV a],[aZ 1 true b<|d.map ak])) (fun a=>cC N=cC a) (fun a _ b c=>b=c.length∧c.length+2*a.length≤2^21+10∧cC N=c++cC a) (by rfl) (fun _ _ _ _ _ a hj0=>Kh 0 a<|Kf 1 (Le.lsn<|rr0 []:Le _ (ay))) (fun a _ b _ c d _ e f g _ i hj0=>Kt 0 g<|Mx i<|Ka 11 c.to 1048577 (fun _ _=>Kl 6 26 (dc a)<|Mg 0<|M0 (.ren [1,0] [] [3,7,8,9])<|M1 (.frz 1 [3,7,8,9]) (et rt ti)<|Mf<|e 1 2 [c.from_,c.to]<|by exact⟨rfl,by(have:=gy b f;simp only[lC,lN]<;>(omega)),by rw[hj0,cC];first|rw[EJ (by assumption)]|rw[EK (by assumption)]⟩) fun _ _=>Kl 0 26 (dc a)<|Mg 0<|M0 (.ren [1,0] [] [3,7,8,9])<|M1 (.frz 1 [3,7,8,9]) (et rt ti)<|Mf<|e 0 1 [c.from_]<|by exact⟨rfl,by(have:=gy b f;simp only[lC,lN]<;>(omega)),by rw[hj0,cC];first|rw[EJ (by assumption)]|rw[EK (by assumption)]⟩) (fun _ _ a b c _ _ _ d hj0=>Kh 0 d<|Mg 1<|M2 (.fsl 0 [] 2<|c.map ak) ti (bT (aY a) (tA ak c b (by(omega):(c).length=b))<|aX JK c)<|Ml 2 (e9 (c.map ak) false<|aX JK c)<|Mf<|cY<|rr0<|c.map ak) fun a _ b c d _ _ e f _ g _ i _ j hj0=>Kt 0 i<|Mx j<|K1 6 .app (bT (aY b) (by(rw[lM];exact hj0.1):c=(d.map ak).length) (by(have z:=hj0.2.1;refine cJ (m:=2^22) ?_ ?_ ?_<;>first|(omega)|(simp only[lA,lC,lN]<;>(first|omega|(simp only[oN]at *;omega)))):small (c+1) 8=true))<|M1 (.obj 0<|aZ 1 true (b+1)<|(d++[e.from_]).map ak) (congrArg (aZ 1 true<|b+1)<|ce (f:=ak) (l:=d) (ws:=[e.from_]))<|Ka 3 e.to 1048577 (fun _ _=>K1 3 .app (bT (aY<|b+1) (by(simp only[lM,lA,lC,lN]<;>(omega)):c+1=((d++[e.from_]).map ak).length) (by(have z:=hj0.2.1;refine cJ (m:=2^22) ?_ ?_ ?_<;>first|(omega)|(simp only[lA,lC,lN]<;>(first|omega|(simp only[oN]at *;omega)))):small (c+1+1) 8=true))<|M1 (.obj 0<|aZ 1 true (b+1+1)<|(d++[e.from_]++[e.to]).map ak) (congrArg (aZ 1 true<|b+1+1)<|ce (f:=ak) (l:=d++[e.from_]) (ws:=[e.to]))<|Kl 1 26 (dc a)<|K1 0 (.frz 1 [3,7,8,9]) (et (tR 1 true (b+1+1) 1<|aX JK<|d++[e.from_]++[e.to]) ti)<|Mf<|g (b+1+1) (c+1+1) (d++[e.from_]++[e.to])<|by exact⟨by(simp only[lA,lC,lN]<;>(omega)),by(have z:=hj0.2.1;simp only[lA,lC,lN]at * <;>(omega)),by rw[hj0.2.2,cC];first|(rw[EJ (by assumption)];simp)|(rw[EK (by assumption)];simp)⟩) fun _ _=>Kl 0 26 (dc a)<|K1 0 (.frz 1 [3,7,8,9]) (et (tR 1 true (b+1) 1<|aX JK<|d++[e.from_]) ti)<|Mf<|g (b+1) (c+1) (d++[e.from_])<|by exact⟨by(simp only[lA,lC,lN]<;>(omega)),by(have z:=hj0.2.1;simp only[lA,lC,lN]at * <;>(omega)),by rw[hj0.2.2,cC];first|(rw[EJ (by assumption)];simp)|(rw[EK (by assumption)];simp)⟩
noncomputable abbrev ng:AObj:=.row 1 false 0 [.ps [iV 0] true]
noncomputable abbrev jd(i ep n:Nat):AObj:=.row 1 false 0 [.slice i ep 0 n none]
theorem P9{α:Type}{f:α→AV}{l:List α}(h:0<l.length):l.map f≠[]:=by
  intro e;have:=congrArg List.length e;simp at this;subst this;simp at h
theorem Vr(pq:PId)(d:PDeed)(ss:List PSpan)(B:List Int)(m:List (Int×PStart))(hB:kP 44 [.ls (ss.map aJ)] (.ls (B.map ak)))(hb:B.length=0):
    kD 43 [aU d,.ls (ss.map aJ),.ptr 2 0 0 0] (av [iQ pq,dq,ng,bm m,di d]) (.tuple []) (av [iQ pq,dq,ng,bm m,di d]):=by
  let q:=[aa [iV d.act,iV d.item,iV d.day,iV d.it.kind,aW (d.it.at_.map az),aW (d.it.to.map az),iV d.it.where_,iV d.it.nth_,iV d.it.unit.act,iV d.it.unit.item,iV d.it.unit.n,iV d.it.unit.kind,ax d.it.unit.label,aW (d.it.unit.head.map aQ),aW (d.it.unit.words.map aQ),aW (d.it.unit.kids.map aV),aW (d.it.old.map m0),aW (d.it.new.map m0),ax d.it.label,ax d.it.for_,iV d.it.start.kind,iV d.it.start.day,ax d.it.start.event,iV d.it.act,iV d.it.item,iV d.it.day,ax d.it.event,aW (d.it.by_.map NA)]];let q1:=AHeap.mk 6 (bB (av [aZ 3 false 0 [aa [iV pq.a,iV pq.i,iV pq.n]],aZ 1 false 0 [ay],aZ 1 false 0 [iR [iV 0] true],AObj.map (bw aw m 0) m.length,aZ 28 false 0 q,aZ 28 false 0 q]) ([]) Tr.nil);let q2:=[iV 0];exact ed Tryz.func43 fun a=>Kp 2 hB<|Mw (.opv (iR q2 true) q1<|.go 0<|.frz 5 [] .fin)<|vG rt rt (NT (f:=ak) (l:=B) (sz:=1) (b:=8) (xs:=q2) (t:=true) (h:=q1) (by(omega):(B).length=0)) (re rt (tM m.length 5<|af (f:=aw) (fun _=>rfl) m 0) rt rt rt ti) a
theorem YT(pq:PId)(d:PDeed)(ss:List PSpan)(B:List Int)(m:List (Int×PStart))(hB:kP 44 [.ls (ss.map aJ)] (.ls (B.map ak)))(hb:0<B.length)(hb2:B.length<2^30):
    kD 43 [aU d,.ls (ss.map aJ),.ptr 2 0 0 0] (av [iQ pq,dq,ng,bm m,di d]) (.tuple []) (av [iQ pq,dq,jd 5 0 (([0]++B).map ak).length,bm m,di d,nO 0 ([0]++B)]):=by
  let q:=List.map ak ([0]++B);exact ed Tryz.func43 fun a=>Kp 2 hB<|M4 (.apx q) rt rt (et (by exact P9 hb:List.map ak B≠[])<|fM 1 ak B fun _=>rfl) (et (et (aY q) (by(refine cJ (m:=2^32) ?_ ?_ ?_<;>first|(omega)|(simp only[lA,lM,lC,lN]<;>(omega))):small (([iV 0]).length+(B.map ak).length) 8=true)) rt)<|Mg 0<|M2 (.ren [0,1,2,3,4,6,5] [3,6] []) (tN m.length<|af (f:=aw) (fun _=>rfl) m 0) (tS 1 true 0<|aX JK<|[0]++B)<|M1 (.frz 6 []) (DI (tR 1 true 0 6<|aX JK<|[0]++B) rt (tM m.length 6<|af (f:=aw) (fun _=>rfl) m 0) rt rt rt ti)<|Mf a
theorem YS(pq:PId)(d:PDeed)(ss:List PSpan)(B:List Int)(m:List (Int×PStart))(ep n:Nat)(out:List Int)(hB:kP 44 [.ls (ss.map aJ)] (.ls (B.map ak)))(hb:B.length=0):
    kD 43 [aU d,.ls (ss.map aJ),.ptr 2 0 0 0] (av [iQ pq,dq,jd 4 ep n,bm m,nO ep out,di d]) (.tuple []) (av [iQ pq,dq,jd 4 ep n,bm m,nO ep out,di d]):=by
  let q:=[aa [iV d.act,iV d.item,iV d.day,iV d.it.kind,aW (d.it.at_.map az),aW (d.it.to.map az),iV d.it.where_,iV d.it.nth_,iV d.it.unit.act,iV d.it.unit.item,iV d.it.unit.n,iV d.it.unit.kind,ax d.it.unit.label,aW (d.it.unit.head.map aQ),aW (d.it.unit.words.map aQ),aW (d.it.unit.kids.map aV),aW (d.it.old.map m0),aW (d.it.new.map m0),ax d.it.label,ax d.it.for_,iV d.it.start.kind,iV d.it.start.day,ax d.it.start.event,iV d.it.act,iV d.it.item,iV d.it.day,ax d.it.event,aW (d.it.by_.map NA)]];let q1:=AHeap.mk 7 (bB (av [aZ 3 false 0 [aa [iV pq.a,iV pq.i,iV pq.n]],aZ 1 false 0 [ay],aZ 1 false 0 [aD 4 ep 0 n none],AObj.map (bw aw m 0) m.length,aZ 1 true ep (out.map ak),aZ 28 false 0 q,aZ 28 false 0 q]) ([4]) Tr.nil);exact ed Tryz.func43 fun a=>Kp 2 hB<|Mw (.opv (aD 4 ep 0 n none) q1<|.go 0<|.frz 6 [] .fin)<|vG rt (hJ (tR 1 true ep 7<|aX JK out) rt) (R4 (f:=ak) (l:=B) (sz:=1) (b:=8) (id:=4) (ep:=ep) (off:=0) (len:=n) (cap:=none) (h:=q1) (by(omega):(B).length=0)) (DI rt (tR 1 true ep 6<|aX JK out) (tM m.length 6<|af (f:=aw) (fun _=>rfl) m 0) rt rt rt ti) a
theorem YR(pq:PId)(d:PDeed)(ss:List PSpan)(B:List Int)(m:List (Int×PStart))(ep n:Nat)(out:List Int)(hB:kP 44 [.ls (ss.map aJ)] (.ls (B.map ak)))(hb:0<B.length)(hn:n=out.length)(hn2:n+B.length<2^34):
    kD 43 [aU d,.ls (ss.map aJ),.ptr 2 0 0 0] (av [iQ pq,dq,jd 4 ep n,bm m,nO ep out,di d]) (.tuple []) (av [iQ pq,dq,jd 4 (ep+1) (n+(B.map ak).length),bm m,nO (ep+1) (out++B),di d]):=by
  exact ed Tryz.func43 fun a=>Kp 2 hB<|M4 (.apx<|(out++B).map ak) rt (hJ (tR 1 true ep 7<|aX JK out) rt) (et (by exact P9 hb:List.map ak B≠[])<|fM 1 ak B fun _=>rfl) (et (bT (aY ep) (by(rw[lM];exact hn):n=(out.map ak).length) (by(refine cJ (m:=2^36) ?_ ?_ ?_<;>first|(omega)|(simp only[lA,lM,lC,lN]<;>(omega))):small (n+(B.map ak).length) 8=true))<|ce (f:=ak) (l:=out) (ws:=B))<|K1 0 (.frz 6 []) (DI rt (tR 1 true (ep+1) 6<|aX JK<|out++B) (tM m.length 6<|af (f:=aw) (fun _=>rfl) m 0) rt rt rt ti)<|Mf a
noncomputable def Bc(m:List (Int×PStart))(ds:List PDeed)(d:PDeed):List Int:=match co d.it.kind with|true=>cC (am (au m d.act) d ds)|false=>[]
noncomputable def ji(m:List (Int×PStart))(ds:List PDeed):List PDeed→List Int
  |[]=>[]
  |d::r=>Bc m ds d++ji m ds r
theorem At(s:PStart)(d:PDeed)(l:List PDeed):kP 44 [.ls ((am s d l).map aJ)] (.ls ((cC (am s d l)).map ak)):=by
  have hn:=ni s d l
  have h:=Bd (am s d l) (nY hn.len (by decide))
  have e:iX (am s d l)=am s d l:=(KC hn).symm
  rwa[e]at h
theorem vP{m:List (Int×PStart)}{ds r:List PDeed}{d:PDeed}(h:co d.it.kind=true):ji m ds (d::r)=cC (am (au m d.act) d ds)++ji m ds r:=by simp only[ji,Bc,h]
theorem Jw{m:List (Int×PStart)}{ds r:List PDeed}{d:PDeed}(h:co d.it.kind=false):ji m ds (d::r)=ji m ds r:=by simp only[ji,Bc,h,wV]
theorem qO(s:PStart)(d:PDeed)(l:List PDeed):(cC (am s d l)).length≤2^22:=by
  have h:=CT (am s d l);have:=(ni s d l).len;omega
theorem Qb{B:List Int}(h:B.isEmpty=true):B.length=0:=by rw[yj.1 h];rfl
theorem Vf{B:List Int}(h:B.isEmpty=false):0<B.length:=by
  cases B with
  |nil=>cases h
  |cons a r=>exact wQ _
theorem Hj{B X:List Int}(h:B.isEmpty=true):B++X=X:=by rw[yj.1 h];rfl
theorem Xv(pq:PId)(s:PStart)(d:PDeed)(l:List PDeed)(m:List (Int×PStart))(hb:By (cC (am s d l)).isEmpty true):kD 43 [aU d,.ls ((am s d l).map aJ),.ptr 2 0 0 0] (av [iQ pq,dq,ng,bm m,di d]) (.tuple []) (av [iQ pq,dq,ng,bm m,di d]):=Vr pq d _ _ m (At s d l) (Qb hb)
theorem Xy(pq:PId)(s:PStart)(d:PDeed)(l:List PDeed)(m:List (Int×PStart))(hb:(cC (am s d l)).isEmpty=true):kD 43 [aU d,.ls ((am s d l).map aJ),.ptr 2 0 0 0] (av [iQ pq,dq,ng,bm m,di d]) (.tuple []) (av [iQ pq,dq,ng,bm m,di d]):=Vr pq d _ _ m (At s d l) (Qb hb)
theorem Xw(pq:PId)(s:PStart)(d:PDeed)(l:List PDeed)(m:List (Int×PStart))(hb:By (cC (am s d l)).isEmpty false):kD 43 [aU d,.ls ((am s d l).map aJ),.ptr 2 0 0 0] (av [iQ pq,dq,ng,bm m,di d]) (.tuple []) (av [iQ pq,dq,jd 5 0 (([0]++cC (am s d l)).map ak).length,bm m,di d,nO 0 ([0]++cC (am s d l))]):=YT pq d _ _ m (At s d l) (Vf hb) (nY (qO s d l) (by decide))
theorem Xk(pq:PId)(s:PStart)(d:PDeed)(l:List PDeed)(m:List (Int×PStart))(ep n:Nat)(out:List Int)(hb:By (cC (am s d l)).isEmpty true):kD 43 [aU d,.ls ((am s d l).map aJ),.ptr 2 0 0 0] (av [iQ pq,dq,jd 4 ep n,bm m,nO ep out,di d]) (.tuple []) (av [iQ pq,dq,jd 4 ep n,bm m,nO ep out,di d]):=YS pq d _ _ m ep n out (At s d l) (Qb hb)
theorem Xj(pq:PId)(s:PStart)(d:PDeed)(l:List PDeed)(m:List (Int×PStart))(ep n:Nat)(out:List Int)(hb:By (cC (am s d l)).isEmpty false)(hn:n=out.length)(hn2:n<2^33):kD 43 [aU d,.ls ((am s d l).map aJ),.ptr 2 0 0 0] (av [iQ pq,dq,jd 4 ep n,bm m,nO ep out,di d]) (.tuple []) (av [iQ pq,dq,jd 4 (ep+1) (n+((cC (am s d l)).map ak).length),bm m,nO (ep+1) (out++cC (am s d l)),di d]):=YR pq d _ _ m ep n out (At s d l) (Vf hb) hn (by have:=qO s d l;omega)
noncomputable def bE(m:List (Int×PStart))(ds:List PDeed)(d:PDeed):Nat:=match(Bc m ds d).isEmpty with|true=>0|false=>1
noncomputable def pM(m:List (Int×PStart))(ds:List PDeed):List PDeed→Nat
  |[]=>0
  |d::r=>bE m ds d+pM m ds r
theorem Y1{m:List (Int×PStart)}{ds:List PDeed}{d:PDeed}(h:co d.it.kind=false):bE m ds d=0:=by simp only[bE,Bc,h];rfl
theorem Y0{m:List (Int×PStart)}{ds:List PDeed}{d:PDeed}(h:co d.it.kind=true)(h2:(cC (am (au m d.act) d ds)).isEmpty=true):bE m ds d=0:=by simp only[bE,Bc,h,h2]
theorem Y2{m:List (Int×PStart)}{ds:List PDeed}{d:PDeed}(h:co d.it.kind=true)(h2:(cC (am (au m d.act) d ds)).isEmpty=false):bE m ds d=1:=by simp only[bE,Bc,h,h2]
/-- What the rounds are to tell: 'A' nothing yet, 'B' something. -/
structure BrkA(m:List (Int×PStart))(ds r:List PDeed):Prop where
  f:ji m ds ds=ji m ds r
  e:pM m ds ds=pM m ds r
structure BrkB(m:List (Int×PStart))(ds r:List PDeed)(ep n:Nat)(out:List Int):Prop where
  len:n=out.length
  small:out.length+2^22*r.length≤2^22*ds.length+1
  f:[0]++ji m ds ds=out++ji m ds r
  e:pM m ds ds=ep+1+pM m ds r
theorem BrkA.no{m:List (Int×PStart)}{ds r:List PDeed}{d:PDeed}(h:BrkA m ds (d::r))(ha:co d.it.kind=false):BrkA m ds r:=⟨by rw[h.f,Jw ha],by rw[h.e];simp only[pM,Y1 ha,fZ]⟩
theorem BrkA.nil{m:List (Int×PStart)}{ds r:List PDeed}{d:PDeed}(h:BrkA m ds (d::r))(ha:co d.it.kind=true)(hb:(cC (am (au m d.act) d ds)).isEmpty=true):BrkA m ds r:=⟨by rw[h.f,vP ha,Hj hb],by rw[h.e];simp only[pM,Y0 ha hb,fZ]⟩
theorem BrkA.new{m:List (Int×PStart)}{ds r:List PDeed}{d:PDeed}{n:Nat}(h:BrkA m ds (d::r))(hl:(d::r).length≤ds.length)(ha:co d.it.kind=true)(hb:(cC (am (au m d.act) d ds)).isEmpty=false)(hn:n=(([0]++cC (am (au m d.act) d ds)).map ak).length):BrkB m ds r 0 n ([0]++cC (am (au m d.act) d ds)):=by
  have:=qO (au m d.act) d ds
  refine⟨by rw[hn,lM],by(rw[lA];simp only[lC,lN]at *;omega),by rw[h.f,vP ha,nw],by rw[h.e];show bE m ds d+pM m ds r=_;rw[Y2 ha hb]⟩
theorem BrkB.no{m:List (Int×PStart)}{ds r:List PDeed}{d:PDeed}{ep n:Nat}{out:List Int}(h:BrkB m ds (d::r) ep n out)(ha:co d.it.kind=false):BrkB m ds r ep n out:=⟨h.len,by have:=h.small;simp only[lC]at this;omega,by rw[h.f,Jw ha],by rw[h.e];simp only[pM,Y1 ha,fZ]⟩
theorem BrkB.nil{m:List (Int×PStart)}{ds r:List PDeed}{d:PDeed}{ep n:Nat}{out:List Int}(h:BrkB m ds (d::r) ep n out)(ha:co d.it.kind=true)(hb:(cC (am (au m d.act) d ds)).isEmpty=true):BrkB m ds r ep n out:=⟨h.len,by have:=h.small;simp only[lC]at this;omega,by rw[h.f,vP ha,Hj hb],by rw[h.e];simp only[pM,Y0 ha hb,fZ]⟩
theorem BrkB.new{m:List (Int×PStart)}{ds r:List PDeed}{d:PDeed}{ep n k:Nat}{out:List Int}(h:BrkB m ds (d::r) ep n out)(ha:co d.it.kind=true)(hb:(cC (am (au m d.act) d ds)).isEmpty=false)(hk:k=n+((cC (am (au m d.act) d ds)).map ak).length):BrkB m ds r (ep+1) k (out++cC (am (au m d.act) d ds)):=by
  have:=qO (au m d.act) d ds
  refine⟨by rw[hk,h.len,lM,lA],by(have:=h.small;simp only[lA,lC]at *;omega),by rw[h.f,vP ha,nw],by rw[h.e];simp only[pM,Y2 ha hb];omega⟩
theorem BrkB.done{m:List (Int×PStart)}{ds:List PDeed}{ep n:Nat}{out:List Int}(h:BrkB m ds [] ep n out):ep=pM m ds ds-1∧n=([0]++ji m ds ds).length∧out=[0]++ji m ds ds:=by
  have e1:=h.f
  simp only[ji,ec]at e1
  have e2:=h.e
  simp only[pM]at e2
  exact⟨by omega,by rw[e1];exact h.len,e1.symm⟩
theorem NI(pq:PId)(gs:List PGaz)(L:List PAct)(ds:List PDeed)(hL:L.length<10000)(hd:ds.length<2000)(ha:kP 55 [.ls (gs.map al)] (.ls (L.map ab)))(hi:kP 36 [.ls (gs.map al)] (.ls (ds.map aU)))(hE:ji (lW L []) ds ds=[]):
    kD 42 [.ls (gs.map al),.func (.func 43) [] [.ptr 2 0 0 0]] (av [iQ pq,dq,ng]) (.tuple []) (av [iQ pq,dq,ng]):=by
  have hlk:=pJ
  have hup:=rQ
  have hno:∀{m:List (Int×PStart)}{r:List PDeed}{d:PDeed},ji m ds (d::r)=[]→co d.it.kind=true→(cC (am (au m d.act) d ds)).isEmpty=true:=fun h h2=>by
    rw[vP h2]at h;rw[(List.append_eq_nil_iff.1 h).1];rfl
  let q1:=[aa [iV pq.a,iV pq.i,iV pq.n]];let q2:=[iR [iV 0] true];exact ed Tryz.func42 fun a=>Kp 2 ha<|Kl 0 13 (ln ab L)<|Mg 0<|OW ab L ([]:List (Int×PStart)) [0,1,4,12,13,14] (fun a _ b=>([aW<|gs.map al,bY (bV 43) [] [bz 2 0 0 0],AV.map 3,aW<|L.map ab,nV L.length,nV a],[aZ 3 false 0 [aa [iV pq.a,iV pq.i,iV pq.n]],aZ 1 false 0 [ay],aZ 1 false 0 [iR [iV 0] true],AObj.map (bw aw b 0) b.length])) (fun a b=>lW L []=lW a b) (by rfl) (fun _ _ b _ _ _ c e=>Kh 0 c<|Kp 0 hi<|Kl 2 27 (ln aU ds)<|Mg 0<|VX (0:Nat) ds () [1,4,7,26,27,28] (fun a _ _=>([bY (bV 43) [] [bz 2 0 0 0],AV.map 3,aW<|ds.map aU,aW<|ds.map aU,nV ds.length,nV a],[aZ 3 false 0 [aa [iV pq.a,iV pq.i,iV pq.n]],aZ 1 false 0 [ay],aZ 1 false 0 [iR [iV 0] true],AObj.map (bw aw b 0) b.length])) (fun a c _=>(ds).drop a=c∧ji b ds c=[]) (fun _ a _=>a.length) (et rfl<|by(rw[←show lW L []=b from e];exact hE)) fun c e f g i=>Mc e (fun c=>have e:=fY g.1 c;have:=gL (J:=fun a _=>ji b ds a=[]) (a:=f) c g.2;Kh 0 e<|M1 (.frz 3 []) (jv rt rt rt ti)<|Mf a) fun a e j=>let k:=[aa [iV a.act,iV a.item,iV a.day,iV a.it.kind,aW<|a.it.at_.map az,aW<|a.it.to.map az,iV a.it.where_,iV a.it.nth_,iV a.it.unit.act,iV a.it.unit.item,iV a.it.unit.n,iV a.it.unit.kind,ax a.it.unit.label,aW<|a.it.unit.head.map aQ,aW<|a.it.unit.words.map aQ,aW<|a.it.unit.kids.map aV,aW<|a.it.old.map m0,aW<|a.it.new.map m0,ax a.it.label,ax a.it.for_,iV a.it.start.kind,iV a.it.start.day,ax a.it.start.event,iV a.it.act,iV a.it.item,iV a.it.day,ax a.it.event,aW<|a.it.by_.map NA]];have l:=fm g.1 j;have:=ap l;have n:=fV (enc:=aU) g.1 j;have f:=ca (J:=fun a _=>ji b ds a=[]) (a:=f) j g.2;Kt 0 l<|Mx n<|Kp 5 (jl a.it.kind)<|Mb (co a.it.kind) (fun _=>K1 4 (.look<|aa [iV (au b a.act).kind,iV (au b a.act).day,ax (au b a.act).event]) (hlk b a.act)<|Kp 1 (gq (au b a.act) a ds<|by(omega))<|M3 (.efx true (bP [])<|av [aZ 3 false 0 q1,aZ 1 false 0 [ay],aZ 1 false 0 q2,AObj.map (bw aw b 0) b.length,aZ 28 false 0 k]) (re rt (tM b.length 5<|af (f:=aw) (fun _=>rfl) b 0) rt rt rt ti) (re (aY<|some<|aZ 28 false 0 k) (aY<|some<|AObj.map (bw aw b 0) b.length) (aY<|some<|aZ 1 false 0 q2) (aY<|some<|aZ 1 false 0 [ay]) (aY<|some<|aZ 3 false 0 q1) ti) (Xy pq (au b a.act) a ds b<|by exact hno f (by assumption))<|Kl 0 46 (dc c)<|K1 0 (.frz 4 [1,4,7,26,27,28]) (vG (tM b.length 4<|af (f:=aw) (fun _=>rfl) b 0) rt rt rt ti)<|Mf<|i (c+1) e () (et (bW g.1 j)<|by(have z:=f;rw[vP (by assumption)]at z;exact(List.append_eq_nil_iff.1 z).2))<|du j) fun _=>Kl 0 46 (dc c)<|K1 0 (.frz 4 [1,4,7,26,27,28]) (vG (tM b.length 4<|af (f:=aw) (fun _=>rfl) b 0) rt rt rt ti)<|Mf<|i (c+1) e () (et (bW g.1 j)<|by(have z:=f;rw[Jw (by assumption)]at z;exact z))<|du j) fun a _ b _ _ c e f _ g _ i j=>Kt 0 g<|Mx i<|K1 7 (.upd (bw aw (iZ c.number c.start b) 0) (iZ c.number c.start b).length) (hup b c)<|Kl 0 23 (dc a)<|K1 0 (.frz 4 [0,1,4,12,13,14]) (vG (tM (iZ c.number c.start b).length 4<|af (f:=aw) (fun _=>rfl) (iZ c.number c.start b) 0) rt rt rt ti)<|Mf<|f (iZ c.number c.start b)<|by exact j
def Ao(pq:PId)(gs:List PGaz)(L:List PAct)(x0:Nat×List PAct×List (Int×PStart)):Prop:=(L).drop x0.1=x0.2.1∧lW L []=lW x0.2.1 x0.2.2
noncomputable def qN(pq:PId)(gs:List PGaz)(L:List PAct)(x0:Nat×List PAct×List (Int×PStart)):List AV×List AObj:=([AV.ls (gs.map al),AV.func (Fn.func 43) [] [AV.ptr 2 0 0 0],AV.map 3,AV.ls (L.map ab),nV L.length,nV x0.1],[AObj.row 3 false 0 [AV.agg [iV pq.a,iV pq.i,iV pq.n]],AObj.row 1 false 0 [AV.nils],AObj.row 1 false 0 [AV.ps [iV 0] true],AObj.map (bw aw x0.2.2 0) x0.2.2.length])
def An(pq:PId)(ds:List PDeed)(x0:Nat×List PAct×List (Int×PStart))(x1:Nat×List PDeed×Unit):Prop:=(ds).drop x1.1=x1.2.1∧BrkA x0.2.2 ds x1.2.1
noncomputable def qM(pq:PId)(ds:List PDeed)(x0:Nat×List PAct×List (Int×PStart))(x1:Nat×List PDeed×Unit):List AV×List AObj:=([AV.func (Fn.func 43) [] [AV.ptr 2 0 0 0],AV.map 3,AV.ls (ds.map aU),AV.ls (ds.map aU),nV ds.length,nV x1.1],[AObj.row 3 false 0 [AV.agg [iV pq.a,iV pq.i,iV pq.n]],AObj.row 1 false 0 [AV.nils],AObj.row 1 false 0 [AV.ps [iV 0] true],AObj.map (bw aw x0.2.2 0) x0.2.2.length])
def Am(pq:PId)(ds:List PDeed)(x0:Nat×List PAct×List (Int×PStart))(x1:Nat×List PDeed×Nat×Nat×List Int):Prop:=(ds).drop x1.1=x1.2.1∧BrkB x0.2.2 ds x1.2.1 x1.2.2.1 x1.2.2.2.1 x1.2.2.2.2
noncomputable def Al(pq:PId)(ds:List PDeed)(x0:Nat×List PAct×List (Int×PStart))(x1:Nat×List PDeed×Nat×Nat×List Int):List AV×List AObj:=([AV.func (Fn.func 43) [] [AV.ptr 2 0 0 0],AV.map 3,AV.ls (ds.map aU),AV.ls (ds.map aU),nV ds.length,nV x1.1],[AObj.row 3 false 0 [AV.agg [iV pq.a,iV pq.i,iV pq.n]],AObj.row 1 false 0 [AV.nils],AObj.row 1 false 0 [AV.slice 4 x1.2.2.1 0 x1.2.2.2.1 none],AObj.map (bw aw x0.2.2 0) x0.2.2.length,AObj.row 1 true x1.2.2.1 (x1.2.2.2.2.map ak)])
theorem NH(pq:PId)(gs:List PGaz)(L:List PAct)(ds:List PDeed)(hL:L.length<10000)(hd:ds.length<2000)(ha:kP 55 [.ls (gs.map al)] (.ls (L.map ab)))(hi:kP 36 [.ls (gs.map al)] (.ls (ds.map aU)))(hE:ji (lW L []) ds ds≠[]):
    kD 42 [.ls (gs.map al),.func (.func 43) [] [.ptr 2 0 0 0]] (av [iQ pq,dq,ng]) (.tuple []) (av [iQ pq,dq,jd 3 (pM (lW L []) ds ds-1) ([0]++ji (lW L []) ds ds).length,nO (pM (lW L []) ds ds-1) ([0]++ji (lW L []) ds ds)]):=by
  have hlk:=pJ
  have hup:=rQ
  let q3:=[aa [iV pq.a,iV pq.i,iV pq.n]];let q10:=bP [];let q12:=some (aZ 1 false 0 [ay]);let q13:=[iR [iV 0] true];let q14:=some (aZ 3 false 0 q3);exact Jt Tryz.func42<|Kp 2 ha<|Kl 0 13 (ln ab L)<|Mg 0<|ML (Nat×List PAct×List (Int×PStart)) [0,1,4,12,13,14] (qN pq gs L) (Ao pq gs L) (fun a=>a.2.1.length) (0,L,[]) (aY<|qN pq gs L (0,L,[])) (et (rfl:List.drop 0 (L)=L) (by rfl:(lW L []=lW L []))) fun a b c=>let d:=some<|AObj.map (bw aw a.2.2 0) a.2.2.length;Mi (fun a b=>lW L []=lW a b) ab b (fun _ b c=>Kh 0 b<|Kp 0 hi<|Kl 2 27 (ln aU ds)<|Mg 0<|MM (Nat×List PDeed×Unit) (Nat×List PDeed×Nat×Nat×List Int) [1,4,7,26,27,28] (qM pq ds a) (Al pq ds a) (An pq ds a) (Am pq ds a) (fun a=>a.2.1.length) (fun a=>a.2.1.length) (.inl (0,ds,())) (aY<|qM pq ds a (0,ds,())) (et (rfl:List.drop 0 (ds)=ds) (by(exact⟨rfl,rfl⟩):(BrkA a.2.2 ds ds))) (fun b e f=>Mc b.2.1 (fun d=>have f:=fY e.1 d;have b:=gL (J:=fun b _=>BrkA a.2.2 ds b) (a:=b.2.2) d e.2;Kh 0 f<|Mw .abs (by exact hE (by rw[show lW L []=a.2.2 from c];exact b.f):False)) fun c g h=>let i:=[aa [iV c.act,iV c.item,iV c.day,iV c.it.kind,aW<|c.it.at_.map az,aW<|c.it.to.map az,iV c.it.where_,iV c.it.nth_,iV c.it.unit.act,iV c.it.unit.item,iV c.it.unit.n,iV c.it.unit.kind,ax c.it.unit.label,aW<|c.it.unit.head.map aQ,aW<|c.it.unit.words.map aQ,aW<|c.it.unit.kids.map aV,aW<|c.it.old.map m0,aW<|c.it.new.map m0,ax c.it.label,ax c.it.for_,iV c.it.start.kind,iV c.it.start.day,ax c.it.start.event,iV c.it.act,iV c.it.item,iV c.it.day,ax c.it.event,aW<|c.it.by_.map NA]];let j:=aa [iV (au a.2.2 c.act).kind,iV (au a.2.2 c.act).day,ax (au a.2.2 c.act).event];let k:=List.map ak<|[0]++cC (am (au a.2.2 c.act) c ds);have l:=fm e.1 h;have:=ap l;have m:=fV (enc:=aU) e.1 h;have n:=ca (J:=fun b _=>BrkA a.2.2 ds b) (a:=b.2.2) h e.2;Kt 0 l<|Mx m<|Kp 5 (jl c.it.kind)<|Mb (co c.it.kind) (fun _=>Ms (cC<|am (au a.2.2 c.act) c ds).isEmpty (fun k=>K1 4 (.look j) (hlk a.2.2 c.act)<|Kp 1 (gq (au a.2.2 c.act) c ds<|by(omega))<|M3 (.efx true q10<|av [aZ 3 false 0 q3,aZ 1 false 0 [ay],aZ 1 false 0 q13,AObj.map (bw aw a.2.2 0) a.2.2.length,aZ 28 false 0 i]) (re rt (tM a.2.2.length 5<|af (f:=aw) (fun _=>rfl) a.2.2 0) rt rt rt ti) (re (aY<|some<|aZ 28 false 0 i) (aY d) (aY<|some<|aZ 1 false 0 q13) (aY q12) (aY q14) ti) (Xv pq (au a.2.2 c.act) c ds a.2.2 k)<|Kl 0 46 (dc b.1)<|K1 0 (.frz 4 [1,4,7,26,27,28]) (vG (tM a.2.2.length 4<|af (f:=aw) (fun _=>rfl) a.2.2 0) rt rt rt ti)<|Mf<|f (.inl (b.1+1,g,())) (et (bW e.1 h) (by exact n.nil (by assumption) (by assumption):(BrkA a.2.2 ds g)))<|du h) fun d=>K1 4 (.look j) (hlk a.2.2 c.act)<|Kp 1 (gq (au a.2.2 c.act) c ds<|by(omega))<|M3 (.efx false q10<|av [aZ 3 false 0 q3,aZ 1 false 0 [ay],aZ 1 false 0 [aD 5 0 0 k.length none],AObj.map (bw aw a.2.2 0) a.2.2.length,aZ 28 false 0 i,aZ 1 true 0 k]) (re rt (tM a.2.2.length 5<|af (f:=aw) (fun _=>rfl) a.2.2 0) rt rt rt ti) ti (Xw pq (au a.2.2 c.act) c ds a.2.2 d)<|Kl 0 46 (dc b.1)<|Mg 0<|M2 (.ren [0,1,2,3,5,4] [3,5] [1,4,7,26,27,28]) (tN a.2.2.length<|af (f:=aw) (fun _=>rfl) a.2.2 0) (tS 1 true 0<|aX JK<|[0]++cC (am (au a.2.2 c.act) c ds))<|M1 (.frz 5 [1,4,7,26,27,28]) (re (tR 1 true 0 5<|aX JK<|[0]++cC (am (au a.2.2 c.act) c ds)) (tM a.2.2.length 5<|af (f:=aw) (fun _=>rfl) a.2.2 0) rt rt rt ti)<|Mf<|f (.inr (b.1+1,g,(0,k.length,[0]++cC (am (au a.2.2 c.act) c ds)))) (et (bW e.1 h) (by exact n.new (IK (e.1.trans h)) (by assumption) (by assumption) rfl:(BrkB a.2.2 ds g (0:Nat) (([(0:Int)]++cC (am (au a.2.2 c.act) c ds)).map ak).length ([(0:Int)]++cC (am (au a.2.2 c.act) c ds)))))<|du h) fun _=>Kl 0 46 (dc b.1)<|K1 0 (.frz 4 [1,4,7,26,27,28]) (vG (tM a.2.2.length 4<|af (f:=aw) (fun _=>rfl) a.2.2 0) rt rt rt ti)<|Mf<|f (.inl (b.1+1,g,())) (et (bW e.1 h) (by exact n.no (by assumption):(BrkA a.2.2 ds g)))<|du h) fun b e f=>let g:=[aD 4 b.2.2.1 0 b.2.2.2.1 none];let h:=List.map ak b.2.2.2.2;Mc b.2.1 (fun d=>have f:=fY e.1 d;have d:=gL (J:=fun b c=>BrkB a.2.2 ds b c.1 c.2.1 c.2.2) (a:=b.2.2) d e.2;Kh 0 f<|M2 (.ren [0,1,2,4,3] [4,3] []) (tS 1 true b.2.2.1<|aX JK b.2.2.2.2) (tN a.2.2.length<|af (f:=aw) (fun _=>rfl) a.2.2 0)<|M1 (.frz 4 []) (vG (tR 1 true b.2.2.1 4<|aX JK b.2.2.2.2) rt rt rt ti)<|Mf<|et (aY q10) (by(have q:=d.done;rw[show lW L []=a.2.2 from c,q.1,q.2.1,q.2.2];try rfl):(av [AObj.row 3 false 0 [AV.agg [iV pq.a,iV pq.i,iV pq.n]],AObj.row 1 false 0 [AV.nils],AObj.row 1 false 0 [AV.slice 3 b.2.2.1 0 b.2.2.2.1 none],AObj.row 1 true b.2.2.1 (b.2.2.2.2.map ak)])=(av [iQ pq,dq,jd 3 (pM (lW L []) ds ds-1) ([0]++ji (lW L []) ds ds).length,nO (pM (lW L []) ds ds-1) ([0]++ji (lW L []) ds ds)]))) fun c i j=>let k:=[aa [iV c.act,iV c.item,iV c.day,iV c.it.kind,aW<|c.it.at_.map az,aW<|c.it.to.map az,iV c.it.where_,iV c.it.nth_,iV c.it.unit.act,iV c.it.unit.item,iV c.it.unit.n,iV c.it.unit.kind,ax c.it.unit.label,aW<|c.it.unit.head.map aQ,aW<|c.it.unit.words.map aQ,aW<|c.it.unit.kids.map aV,aW<|c.it.old.map m0,aW<|c.it.new.map m0,ax c.it.label,ax c.it.for_,iV c.it.start.kind,iV c.it.start.day,ax c.it.start.event,iV c.it.act,iV c.it.item,iV c.it.day,ax c.it.event,aW<|c.it.by_.map NA]];let l:=aa [iV (au a.2.2 c.act).kind,iV (au a.2.2 c.act).day,ax (au a.2.2 c.act).event];let m:=List.map ak<|cC<|am (au a.2.2 c.act) c ds;have n:=fm e.1 j;have:=ap n;have o:=fV (enc:=aU) e.1 j;have p:=ca (J:=fun b c=>BrkB a.2.2 ds b c.1 c.2.1 c.2.2) (a:=b.2.2) j e.2;Kt 0 n<|Mx o<|Kp 5 (jl c.it.kind)<|Mb (co c.it.kind) (fun _=>Ms (cC<|am (au a.2.2 c.act) c ds).isEmpty (fun m=>K1 4 (.look l) (hlk a.2.2 c.act)<|Kp 1 (gq (au a.2.2 c.act) c ds<|by(omega))<|M3 (.efx true q10<|av [aZ 3 false 0 q3,aZ 1 false 0 [ay],aZ 1 false 0 g,AObj.map (bw aw a.2.2 0) a.2.2.length,aZ 1 true b.2.2.1 h,aZ 28 false 0 k]) (DI rt (tR 1 true b.2.2.1 6<|aX JK b.2.2.2.2) (tM a.2.2.length 6<|af (f:=aw) (fun _=>rfl) a.2.2 0) rt rt rt ti) (DI (aY<|some<|aZ 28 false 0 k) (aY<|some<|aZ 1 true b.2.2.1 h) (aY d) (aY<|some<|aZ 1 false 0 g) (aY q12) (aY q14) ti) (Xk pq (au a.2.2 c.act) c ds a.2.2 b.2.2.1 b.2.2.2.1 b.2.2.2.2 m)<|Kl 0 46 (dc b.1)<|K1 0 (.frz 5 [1,4,7,26,27,28]) (re (tR 1 true b.2.2.1 5<|aX JK b.2.2.2.2) (tM a.2.2.length 5<|af (f:=aw) (fun _=>rfl) a.2.2 0) rt rt rt ti)<|Mf<|f (.inr (b.1+1,i,(b.2.2.1,b.2.2.2.1,b.2.2.2.2))) (et (bW e.1 j) (by exact p.nil (by assumption) (by assumption):(BrkB a.2.2 ds i b.2.2.1 b.2.2.2.1 b.2.2.2.2)))<|du j) fun d=>K1 4 (.look l) (hlk a.2.2 c.act)<|Kp 1 (gq (au a.2.2 c.act) c ds<|by(omega))<|M3 (.efx false q10<|av [aZ 3 false 0 q3,aZ 1 false 0 [ay],aZ 1 false 0 [aD 4 (b.2.2.1+1) 0 (b.2.2.2.1+m.length) none],AObj.map (bw aw a.2.2 0) a.2.2.length,aZ 1 true (b.2.2.1+1)<|(b.2.2.2.2++cC (am (au a.2.2 c.act) c ds)).map ak,aZ 28 false 0 k]) (DI rt (tR 1 true b.2.2.1 6<|aX JK b.2.2.2.2) (tM a.2.2.length 6<|af (f:=aw) (fun _=>rfl) a.2.2 0) rt rt rt ti) ti (Xj pq (au a.2.2 c.act) c ds a.2.2 b.2.2.1 b.2.2.2.1 b.2.2.2.2 d (by exact p.len)<|by(have z:=p.small;have z2:=p.len;have z3:=IK (e.1.trans j);simp only[lC]at z z3;omega))<|Kl 0 46 (dc b.1)<|K1 0 (.frz 5 [1,4,7,26,27,28]) (re (tR 1 true (b.2.2.1+1) 5<|aX JK<|b.2.2.2.2++cC (am (au a.2.2 c.act) c ds)) (tM a.2.2.length 5<|af (f:=aw) (fun _=>rfl) a.2.2 0) rt rt rt ti)<|Mf<|f (.inr (b.1+1,i,(b.2.2.1+1,b.2.2.2.1+m.length,b.2.2.2.2++cC (am (au a.2.2 c.act) c ds)))) (et (bW e.1 j) (by exact p.new (by assumption) (by assumption) rfl:(BrkB a.2.2 ds i (b.2.2.1+1) (b.2.2.2.1+m.length) (b.2.2.2.2++cC (am (au a.2.2 c.act) c ds)))))<|du j) fun _=>Kl 0 46 (dc b.1)<|K1 0 (.frz 5 [1,4,7,26,27,28]) (re (tR 1 true b.2.2.1 5<|aX JK b.2.2.2.2) (tM a.2.2.length 5<|af (f:=aw) (fun _=>rfl) a.2.2 0) rt rt rt ti)<|Mf<|f (.inr (b.1+1,i,(b.2.2.1,b.2.2.2.1,b.2.2.2.2))) (et (bW e.1 j) (by exact p.no (by assumption):(BrkB a.2.2 ds i b.2.2.1 b.2.2.2.1 b.2.2.2.2)))<|du j) fun d e f g _ h i=>Kt 0 g<|Mx h<|K1 7 (.upd (bw aw (iZ d.number d.start a.2.2) 0) (iZ d.number d.start a.2.2).length) (hup a.2.2 d)<|Kl 0 23 (dc a.1)<|K1 0 (.frz 4 [0,1,4,12,13,14]) (vG (tM (iZ d.number d.start a.2.2).length 4<|af (f:=aw) (fun _=>rfl) (iZ d.number d.start a.2.2) 0) rt rt rt ti)<|Mf<|c (a.1+1,e,iZ d.number d.start a.2.2) (et (bW b.1 f) (by exact i:(lW L []=lW e (iZ d.number d.start a.2.2))))<|du f
theorem F9(pq:PId)(zs:List Int)(ep n:Nat)(hn:n=zs.length)(hz:0<zs.length)(hb:zs.length<2^40):
    kD 45 [.slice 3 ep 0 n none] (av [iQ pq,dq,jd 3 ep n,nO ep zs]) (.tuple []) (av [iQ pq,dq,jd 3 ep n,nO ep (c8 zs)]):=by
  subst hn
  exact(r8 (Go.Proofs.Tryz.lsort.f5.enters rfl) (fun blk off cap zs w hH hb hs=>Go.Proofs.AnyM.slices_Sort_int Go.Proofs.Tryz.lsort blk off cap zs w hH hb hs) zs (h:=av [iQ pq,dq,jd 3 ep zs.length,nO ep zs]) (id:=3) (op:=true) rfl hz (by omega)).mono fun v h ⟨h3,h4⟩=>⟨h3,h4.trans rfl⟩
theorem zE(pq:PId)(zs:List Int)(ep n:Nat)(hn:n=zs.length)(hz:0<zs.length)(hb:zs.length<2^40):
    kD 46 [.slice 3 ep 0 n none] (av [iQ pq,dq,jd 3 ep n,nO ep zs]) (.slice 3 ep 0 (bZ zs).length none) (av [iQ pq,dq,jd 3 ep n,nO ep (bZ zs++List.replicate (zs.length-(bZ zs).length) 0)]):=by
  subst hn
  exact(om (Go.Proofs.Tryz.lcompact.f43.enters rfl) (fun blk off cap zs w hH hb hs=>Go.Proofs.AnyG.slices_Compact_int Go.Proofs.Tryz.lcompact blk off cap zs w hH hb hs) zs (h:=av [iQ pq,dq,jd 3 ep zs.length,nO ep zs]) (id:=3) (op:=true) rfl hz (by omega)).mono fun v h ⟨h3,h4⟩=>⟨h3,h4.trans rfl⟩
noncomputable def Vz:Option (AV×AHeap)→Bool
  |some (.tuple [],_)=>true
  |_=>false
noncomputable def Vq:Option (AV×AHeap)→Bool
  |some (.ps [.int .i64 n] true,_)=>ah n 0
  |_=>false
theorem UG{f:FuncId}{a:List AV}(k:Nat)(ht:aq a=0)(h:Vz (fN C k f a AHeap.none)=true):kP f a (.tuple []):=by
  cases hx:fN C k f a AHeap.none with
  |none=>rw[hx]at h;cases h
  | some r=>
    obtain⟨v,h1⟩:=r
    rw[hx]at h
    have e:v=.tuple []:=by
      unfold Vz at h
      split at h
      · rename_i q;cases q;rfl
      · cases h
    subst e
    exact lZ iJ ht rfl ((aH.of (ev k) hx).mono fun v1 _ e=>e.1)
theorem UF{f:FuncId}{a:List AV}(k:Nat)(ht:aq a=0)(h:Vq (fN C k f a AHeap.none)=true):aM Tryz.prog G f a (.ps [.int .i64 0] true):=by
  cases hx:fN C k f a AHeap.none with
  |none=>rw[hx]at h;cases h
  | some r=>
    obtain⟨v,h1⟩:=r
    rw[hx]at h
    have e:v=.ps [.int .i64 0] true:=by
      unfold Vq at h
      split at h
      · rename_i q;cases q;rw[jR h]
      · cases h
    subst e
    exact lZ iJ ht rfl ((aH.of (ev k) hx).mono fun v1 _ e=>e.1)
theorem PQ:kP 45 [.ps [iV 0] true] (.tuple []):=UG 60 rfl (by kernel_rfl)
theorem HJ:aM Tryz.prog G 46 [.ps [.int .i64 0] true] (.ps [.int .i64 0] true):=UF 60 rfl (by kernel_rfl)
theorem ZT(pq:PId)(gs:List PGaz)(hc:kD 42 [.ls (gs.map al),.func (.func 43) [] [.ptr 2 0 0 0]] (av [iQ pq,dq,ng]) (.tuple []) (av [iQ pq,dq,ng])):kD 26 [.ls (gs.map al)] (av [iQ pq,dq]) (.ps [iV 0] true) (av [iQ pq,dq]):=by
  exact ed Tryz.func26 fun a=>Ke 5 hc<|Kp 0 PQ<|Kp 0 HJ<|K1 0 (.frz 2 [2]) (bT rt rt ti)<|Mf a
theorem L7(X:List Int):(c8 X).length=X.length:=(List.mergeSort_perm X _).length_eq
theorem ZS(pq:PId)(gs:List PGaz)(X:List Int)(k:Nat)(hz:0<X.length)(hb:X.length<2^40)(hc:kD 42 [.ls (gs.map al),.func (.func 43) [] [.ptr 2 0 0 0]] (av [iQ pq,dq,ng]) (.tuple []) (av [iQ pq,dq,jd 3 k X.length,nO k X])):kD 26 [.ls (gs.map al)] (av [iQ pq,dq]) (.slice 3 k 0 (bZ (c8 X)).length none) (av [iQ pq,dq,jd 3 k X.length,nO k (bZ (c8 X)++List.replicate ((c8 X).length -(bZ (c8 X)).length) 0)]):=by
  have hs:=L7 X
  exact ed Tryz.func26 fun a=>Ke 5 hc<|Ke 0 (F9 pq X k X.length (by(omega)) hz hb)<|Ke 0 (zE pq (c8 X) k X.length (by(omega)) (by(omega))<|by(omega))<|Kf 0 a
noncomputable def cj(gs:List PGaz):List Int:=bZ (c8 ([0]++ji (lW (fy gs) []) (fp gs) (fp gs)))
theorem Hc:∀{l:List PSpan},(∀s,s∈l→0≤s.from_∧s.from_<s.to∧s.to≤1048577)→∀z,z∈cC l→0≤z∧z<1048577
  | s::r,h,z,hz=>by
    have hs:=h s (eN ..)
    rw[cC]at hz
    rcases jy.1 hz with q|q
    · unfold Hd at q
      cases e:aC s.to 1048577<;>rw[e]at q
      · simp at q;omega
      · have:=ap e;simp at q;omega
    · exact Hc (fun x hx=>h x (fQ _ hx)) z q
theorem Ln(m:List (Int×PStart))(ds:List PDeed):∀(r:List PDeed)(z:Int),z∈ji m ds r→0≤z∧z<1048577
  | d::r,z,hz=>by
    rw[ji]at hz
    rcases jy.1 hz with q|q
    · unfold Bc at q
      cases e:co d.it.kind<;>rw[e]at q
      · cases q
      · exact Hc (ni _ _ _).ok z q
    · exact Ln m ds r z q
theorem Lm(gs:List PGaz):(cj gs).Pairwise (fun a b=>a<b)∧(∀z,z∈cj gs→0≤z∧z<1048577)∧∃r,cj gs=0::r:=by
  obtain⟨h1,h2⟩:=Ae (tj ([0]++ji (lW (fy gs) []) (fp gs) (fp gs)))
  have h3:∀z,z∈cj gs→0≤z∧z<1048577:=fun z hz=>by
    rcases jy.1 ((iC _).mem_iff.1 ((h2 z).1 hz))with q|q
    · rw[nj]at q;omega
    · exact Ln _ _ _ z q
  have h0:(0:Int)∈cj gs:=(h2 0).2 ((iC _).mem_iff.2 (Eo _ (nj.2 rfl)))
  have h1:(cj gs).Pairwise (fun a b=>a<b):=h1
  refine⟨h1,h3,?_⟩
  cases e:cj gs with
  |nil=>rw[e]at h0;cases h0
  | cons a r=>
    rw[e]at h0 h3 h1
    rcases fC.1 h0 with q|q
    · exact⟨r,by rw[←q]⟩
    · have:=(jF.1 h1).1 0 q
      have:=(h3 a (eN ..)).1
      omega
/-- What the amendments' days begin and end. -/
noncomputable def RN(gs:List PGaz):List Int:=ji (lW (fy gs) []) (fp gs) (fp gs)
theorem bpA{gs:List PGaz}(h:OkG gs)(pq:PId)(hb:By (RN gs).isEmpty true):kD 26 [.ls (gs.map al)] (av [iQ pq,dq]) (.ps [iV 0] true) (av [iQ pq,dq]):=by
  have hl:=h.lens
  exact ZT pq gs (NI pq gs _ _ (by omega) (by omega) h.all.1 h.all.2 (yj.1 hb))
theorem uG{gs:List PGaz}(hb:(RN gs).isEmpty=true):cj gs=[0]:=by
  have e:RN gs=[]:=yj.1 hb
  unfold cj
  rw[show ji (lW (fy gs) []) (fp gs) (fp gs)=[]from e,show c8 ([0]++[])=[0]from List.mergeSort_singleton 0];rfl
noncomputable def Zv(gs:List PGaz):List Int:=[0]++RN gs
noncomputable def As(gs:List PGaz):Nat:=pM (lW (fy gs) []) (fp gs) (fp gs)-1
theorem UH(gs:List PGaz)(h:(fp gs).length<2000):(RN gs).length≤2^22*2000:=by
  have hl:∀(r:List PDeed),(ji (lW (fy gs) []) (fp gs) r).length≤2^22*r.length:=by
    intro r
    induction r with
    |nil=>exact ao _
    | cons d r ih=>
      have h1:(Bc (lW (fy gs) []) (fp gs) d).length≤2^22:=by
        unfold Bc
        cases co d.it.kind
        · exact bL _
        · exact qO _ _ _
      simp only[ji,lA,lC];omega
  have:=hl (fp gs)
  unfold RN;omega
noncomputable def lq(gs:List PGaz):List Int:=cj gs++List.replicate ((c8 (Zv gs)).length -(cj gs).length) 0
theorem RM(gs:List PGaz):(cj gs).length≤(lq gs).length∧(lq gs).take (cj gs).length=cj gs:=by
  unfold lq
  exact⟨by rw[lA];omega,List.take_left' rfl⟩
theorem bpB{gs:List PGaz}(h:OkG gs)(pq:PId)(hb:By (RN gs).isEmpty false):kD 26 [.ls (gs.map al)] (av [iQ pq,dq]) (.slice 3 (As gs) 0 (cj gs).length none) (av [iQ pq,dq,jd 3 (As gs) (Zv gs).length,nO (As gs) (lq gs)]):=by
  have hl:=h.lens
  have hE:RN gs≠[]:=fun e=>by rw[e]at hb;cases hb
  have:=UH gs (by omega)
  exact ZS pq gs _ _ (by simp) (by show([0]++RN gs).length<2^40;rw[lA];simp only[lC,lN];omega) (NH pq gs _ _ (by omega) (by omega) h.all.1 h.all.2 hE)
theorem Fk:∀{l:List Int}{lo hi:Int},l.Pairwise (fun a b=>a<b)→(∀z,z∈l→lo≤z∧z<hi)→lo≤hi→(Int.ofNat l.length)≤hi-lo
  |[],lo,hi,_,_,h=>by simp only[lN,oN];omega
  | a::r,lo,hi,hp,hb,h=>by
    obtain⟨h1,h2⟩:=jF.1 hp
    obtain⟨q1,q2⟩:=hb a (eN ..)
    have:=Fk (lo:=a+1) (hi:=hi) h2 (fun z hz=>⟨by have:=h1 z hz;omega,(hb z (fQ _ hz)).2⟩) (by omega)
    simp only[lC,oN]at *;omega
theorem Hv(gs:List PGaz):(cj gs).length≤1048577:=by
  obtain⟨h1,h2,_⟩:=Lm gs
  have:=Fk h1 h2 (by omega)
  simp only[oN]at this;omega
/-- A unit without kids, as the program leaves it. -/
noncomputable abbrev XD(u:TUnit):AV:=.agg [iV u.act,iV u.item,iV u.n,iV u.kind,.str u.label,.ls (u.head.map aQ),.ls (u.words.map aQ),.nils]
noncomputable def cV(v:PVer):AV:=.agg [iV v.from_,iV v.to,iV v.par.a,iV v.par.i,iV v.par.n,iV v.at_,iV v.unit.act,iV v.unit.item,iV v.unit.n,iV v.unit.kind,.str v.unit.label,.ls (v.unit.head.map aQ),.ls (v.unit.words.map aQ),.nils]
theorem iH(v:PVer):(cV v).top=0:=rfl
noncomputable abbrev lO(ep:Nat)(l:List PVer):AObj:=.row 14 true ep (l.map cV)
theorem Ou{u:TUnit}(h:u.kids=[]):Le (eU u) (XD u):=by
  have e:eU u=.agg [iV u.act,iV u.item,iV u.n,iV u.kind,.str u.label,.ls (u.head.map aQ),.ls (u.words.map aQ),.ls []]:=by
    cases u;simp only[TUnit.kids]at h;subst h;rfl
  rw[e]
  exact aP (.cons (Le.refl _) (.cons (Le.refl _) (.cons (Le.refl _) (.cons (Le.refl _) (.cons (Le.refl _) (.cons (Le.refl _) (.cons (Le.refl _) (.cons Le.nils .nil)))))))) rfl
theorem Zc{a b:TUnit}(ha:oy a)(hb:oy b)(ka:a.kids=[])(kb:b.kids=[]):kP 32 [XD a,XD b] (.bool (jU a b)):=
  (OA a ha b hb).onArgs (.cons (Ou ka) (.cons (Ou kb) .nil))
theorem Sx(a b:PVer)(he:kP 32 [XD a.unit,XD b.unit] (.bool (jU a.unit b.unit))):kP 19 [cV a,cV b] (.bool (pg jU a b)):=by
  have rr0 b' (h:(pg jU a b)=b':=by(simp only[pg,bh,bq,aS,aj,bS, *];first|done|rfl)):=h;exact bI Tryz.func19<|Kv 6 (kR ((Tryz.prog).underlying 24) a.par.a a.par.i a.par.n b.par.a b.par.i b.par.n<|av [aZ 14 false 0 [aa [iV a.from_,iV a.to,iV a.par.a,iV a.par.i,iV a.par.n,iV a.at_,iV a.unit.act,iV a.unit.item,iV a.unit.n,iV a.unit.kind,ax a.unit.label,aW<|a.unit.head.map aQ,aW<|a.unit.words.map aQ,ay]],aZ 14 false 0 [aa [iV b.from_,iV b.to,iV b.par.a,iV b.par.i,iV b.par.n,iV b.at_,iV b.unit.act,iV b.unit.item,iV b.unit.n,iV b.unit.kind,ax b.unit.label,aW<|b.unit.head.map aQ,aW<|b.unit.words.map aQ,ay]]])<|Kb 0 (ah a.par.a b.par.a&&(ah a.par.i b.par.i&&ah a.par.n b.par.n)) (fun c=>Kt 0 c<|Kt 0 c<|Kt 0 c<|Kt 0 c<|Ku 0 c<|Kj 0 a.at_ b.at_ (fun c _=>Kt 0 c<|Kt 0 c<|Kt 0 c<|Kt 0 c<|Mp he<|MV c<|Kf 0<|ch<|rr0<|jU a.unit b.unit) fun c _=>Mh c<|Mh c<|Mh c<|Mh c<|My c<|Ky 0<|rr0 false) fun c=>Mh c<|Mh c<|Mh c<|Mh c<|My c<|Ky 2<|rr0 false
/-- What the closure of Versions does, by what it finds. -/
theorem VE(q:PId)(s:PSpan)(u x:TUnit)(hf:kP 17 [eU u,aK q] (.tuple [eU x,.bool false])):
    kD 16 [aJ s,eU u,.ptr 0 0 0 0,.ptr 1 0 0 0] (av [iQ q,dq]) (.tuple []) (av [iQ q,dq]):=by
  exact ed Tryz.func16 fun a=>Kp 3 hf<|K1 8 (.frz 2 []) (bT rt rt ti)<|Mf a
theorem Sp(q:PId)(s:PSpan)(u x:TUnit)(ep n:Nat)(out:List PVer)(hf:kP 17 [eU u,aK q] (.tuple [eU x,.bool false])):
    kD 16 [aJ s,eU u,.ptr 0 0 0 0,.ptr 1 0 0 0] (av [iQ q,gr 2 ep n,lO ep out]) (.tuple []) (av [iQ q,gr 2 ep n,lO ep out]):=by
  exact ed Tryz.func16 fun a=>Kp 3 hf<|K1 8 (.frz 3 []) (jv (tR 14 true ep 3<|aX iH out) rt rt ti)<|Mf a
theorem LM(q:PId)(s:PSpan)(u x:TUnit)(par:PId)(i:Int)(ok:Bool)(hf:kP 17 [eU u,aK q] (.tuple [eU x,.bool true]))(hp:kP 18 [eU u,aK q] (.tuple [aK par,iV i,.bool ok])):
    kD 16 [aJ s,eU u,.ptr 0 0 0 0,.ptr 1 0 0 0] (av [iQ q,dq]) (.tuple []) (av [iQ q,gr 2 0 1,lO 0 [⟨s.from_,s.to,par,i,eY x []⟩]]):=by
  exact ed Tryz.func16 fun a=>Kp 3 hf<|Kp 12 hp<|Mg 29<|M0 (.ren [0,1,7,2,3,4,5,6] [] [])<|M1 (.frz 3 []) (jv rt rt rt ti)<|Mf a
theorem LL(q:PId)(s:PSpan)(u x:TUnit)(par:PId)(i:Int)(ok:Bool)(ep n:Nat)(out:List PVer)(hn:n=out.length)(hn0:0<n)(hz:aC 0 (Int.ofNat n)=true)(hn2:n<2^30)(hf:kP 17 [eU u,aK q] (.tuple [eU x,.bool true]))(hp:kP 18 [eU u,aK q] (.tuple [aK par,iV i,.bool ok]))
    (hm:ah (gD out (n-1)).to s.from_=false):
    kD 16 [aJ s,eU u,.ptr 0 0 0 0,.ptr 1 0 0 0] (av [iQ q,gr 2 ep n,lO ep out]) (.tuple []) (av [iQ q,gr 2 (ep+1) (n+1),lO (ep+1) (out++[⟨s.from_,s.to,par,i,eY x []⟩])]):=by
  exact Jt Tryz.func16<|Kp 3 hf<|Kp 12 hp<|Kt 20 hz<|Kt 0 hz<|Kt 0 hz<|Ma (wj n)<|Mt hz<|M1 .rix (et (aY ep) (oA:n-1<n))<|Mt hz<|Kt 0 hz<|Kt 0 hz<|Mr (et (aY ep)<|aT cV (oA:n-1<(out).length))<|Mt hz<|Kt 0 hz<|Kt 0 hz<|Ku 0 hz<|Kh 0 hm<|Mh hm<|Mh hm<|Mh hm<|Mh hm<|Mh hm<|Mh hm<|My hm<|K1 3 .app (bT (aY ep) (by(rw[lM];exact hn):n=(out.map cV).length) (by(refine cJ (m:=2^31) ?_ ?_ ?_<;>first|omega|decide):small (n+1) 168=true))<|M1 (.obj 2<|aZ 14 true (ep+1)<|(out++[PVer.mk s.from_ s.to par i x]).map cV) (congrArg (aZ 14 true<|ep+1)<|ce (f:=cV) (l:=out) (ws:=[PVer.mk s.from_ s.to par i x]))<|K1 0 (.frz 3 []) (jv (tR 14 true (ep+1) 3<|aX iH<|out++[PVer.mk s.from_ s.to par i x]) rt rt ti)<|Mf<|et (aY<|bP []) (by(simp only[lO,po];rfl):(av [AObj.row 3 false 0 [AV.agg [iV q.a,iV q.i,iV q.n]],AObj.row 1 false 0 [AV.slice 2 (ep+1) 0 (n+1) none],AObj.row 14 true (ep+1) ((out++[PVer.mk s.from_ s.to par i x]).map cV)])=(av [iQ q,gr 2 (ep+1) (n+1),lO (ep+1) (out++[PVer.mk s.from_ s.to par i (eY x [])])]))
theorem LI(q:PId)(s:PSpan)(u x:TUnit)(par:PId)(i:Int)(ok:Bool)(ep n:Nat)(out:List PVer)(hn:n=out.length)(hn0:0<n)(hz:aC 0 (Int.ofNat n)=true)(hn2:n<2^30)(hf:kP 17 [eU u,aK q] (.tuple [eU x,.bool true]))(hp:kP 18 [eU u,aK q] (.tuple [aK par,iV i,.bool ok]))
    (hm:ah (gD out (n-1)).to s.from_=true)(ha:kP 19 [cV (gD out (n-1)),cV ⟨s.from_,s.to,par,i,eY x []⟩] (.bool false)):
    kD 16 [aJ s,eU u,.ptr 0 0 0 0,.ptr 1 0 0 0] (av [iQ q,gr 2 ep n,lO ep out]) (.tuple []) (av [iQ q,gr 2 (ep+1) (n+1),lO (ep+1) (out++[⟨s.from_,s.to,par,i,eY x []⟩])]):=by
  exact Jt Tryz.func16<|Kp 3 hf<|Kp 12 hp<|Kt 20 hz<|Kt 0 hz<|Kt 0 hz<|Ma (wj n)<|Mt hz<|M1 .rix (et (aY ep) (oA:n-1<n))<|Mt hz<|Kt 0 hz<|Kt 0 hz<|Mr (et (aY ep)<|aT cV (oA:n-1<(out).length))<|Mt hz<|Kt 0 hz<|Kt 0 hz<|Ku 0 hz<|Kt 0 hm<|Kt 0 hm<|Kt 0 hm<|Ma (wj n)<|Mt hm<|M1 .rix (et (aY ep) (oA:n-1<n))<|Mt hm<|Mr (et (aY ep)<|aT cV (oA:n-1<(out).length))<|Mt hm<|Kt 0 hm<|Mp ha<|MV hm<|K1 3 .app (bT (aY ep) (by(rw[lM];exact hn):n=(out.map cV).length) (by(refine cJ (m:=2^31) ?_ ?_ ?_<;>first|omega|decide):small (n+1) 168=true))<|M1 (.obj 2<|aZ 14 true (ep+1)<|(out++[PVer.mk s.from_ s.to par i x]).map cV) (congrArg (aZ 14 true<|ep+1)<|ce (f:=cV) (l:=out) (ws:=[PVer.mk s.from_ s.to par i x]))<|K1 0 (.frz 3 []) (jv (tR 14 true (ep+1) 3<|aX iH<|out++[PVer.mk s.from_ s.to par i x]) rt rt ti)<|Mf<|et (aY<|bP []) (by(simp only[lO,po];rfl):(av [AObj.row 3 false 0 [AV.agg [iV q.a,iV q.i,iV q.n]],AObj.row 1 false 0 [AV.slice 2 (ep+1) 0 (n+1) none],AObj.row 14 true (ep+1) ((out++[PVer.mk s.from_ s.to par i x]).map cV)])=(av [iQ q,gr 2 (ep+1) (n+1),lO (ep+1) (out++[PVer.mk s.from_ s.to par i (eY x [])])]))
theorem Ol(q:PId)(s:PSpan)(u x:TUnit)(par:PId)(i:Int)(ok:Bool)(ep n:Nat)(out:List PVer)(hn:n=out.length)(hn0:0<n)(hz:aC 0 (Int.ofNat n)=true)(hn2:n<2^30)(hf:kP 17 [eU u,aK q] (.tuple [eU x,.bool true]))(hp:kP 18 [eU u,aK q] (.tuple [aK par,iV i,.bool ok]))
    (hm:ah (gD out (n-1)).to s.from_=true)(ha:kP 19 [cV (gD out (n-1)),cV ⟨s.from_,s.to,par,i,eY x []⟩] (.bool true)):
    kD 16 [aJ s,eU u,.ptr 0 0 0 0,.ptr 1 0 0 0] (av [iQ q,gr 2 ep n,lO ep out]) (.tuple []) (av [iQ q,gr 2 ep n,lO ep (out.set (n-1) (ER (gD out (n-1)) s.to))]):=by
  exact ed Tryz.func16 fun a=>Kp 3 hf<|Kp 12 hp<|Kt 20 hz<|Kt 0 hz<|Kt 0 hz<|Ma (wj n)<|Mt hz<|M1 .rix (et (aY ep) (oA:n-1<n))<|Mt hz<|Kt 0 hz<|Kt 0 hz<|Mr (et (aY ep)<|aT cV (oA:n-1<(out).length))<|Mt hz<|Kt 0 hz<|Kt 0 hz<|Ku 0 hz<|Kt 0 hm<|Kt 0 hm<|Kt 0 hm<|Ma (wj n)<|Mt hm<|M1 .rix (et (aY ep) (oA:n-1<n))<|Mt hm<|Mr (et (aY ep)<|aT cV (oA:n-1<(out).length))<|Mt hm<|Kt 0 hm<|Mp ha<|MV hm<|Kl 3 61 (wj n)<|K1 1 .rix (et (aY ep) (oA:n-1<n))<|K1 1 (.rst (cV<|gD out<|n-1)<|(out.set (n-1)<|PVer.mk (gD out<|n-1).from_ s.to (gD out<|n-1).par (gD out<|n-1).at_ (gD out<|n-1).unit).map cV) (bT (aY ep) (aT cV (oA:n-1<(out).length))<|jt (f:=cV) (l:=out) (i:=n-1) (w:=PVer.mk (gD out<|n-1).from_ s.to (gD out<|n-1).par (gD out<|n-1).at_ (gD out<|n-1).unit))<|M1 (.frz 3 []) (jv (tR 14 true ep 3<|aX iH<|out.set (n-1)<|PVer.mk (gD out<|n-1).from_ s.to (gD out<|n-1).par (gD out<|n-1).at_ (gD out<|n-1).unit) rt rt ti)<|Mf a
/-- Units that may be compared, without kids. -/
def AM(l:List PVer):Prop:=∀v,v∈l→oy v.unit∧v.unit.kids=[]
theorem KB{u:TUnit}(hu:OkB u){pq:PId}{s:PSpan}(h:bA pq u=true):oy (nZ pq s u).unit∧(nZ pq s u).unit.kids =[]:=by
  refine⟨?_,rfl⟩
  have z:=hu.w _ (sn h).1
  exact ov.2 ⟨show(dh pq u).head.length<2^60 by omega,show(dh pq u).words.length<2^60 by omega,Nat.pow_pos (by decide),fun k hk=>by cases hk⟩
theorem Oo{l:List PVer}{v:PVer}(h:AM l)(hv:oy v.unit∧v.unit.kids=[]):AM (l++[v]):=fun x hx=>by
  rcases jy.1 hx with q|q
  · exact h x q
  · rw[nj.1 q];exact hv
theorem On{l:List PVer}{i:Nat}{t:Int}(h:AM l)(hi:i<l.length):AM (l.set i (ER (gD l i) t)):=fun x hx=>by
  rcases List.mem_or_eq_of_mem_set hx with q|q
  · exact h x q
  · rw[q];have z:=h (gD l i) (ib hi);exact z
theorem YM(pq:PId)(a c:Int)(u:TUnit)(hu:OkB u)(hb:By (bA pq u) false):
    kD 16 [.agg [iV a,iV c],eU u,.ptr 0 0 0 0,.ptr 1 0 0 0] (av [iQ pq,dq]) (.tuple []) (av [iQ pq,dq]):=
  VE pq ⟨a,c⟩ u _ (by have z:=mN hu pq;rwa[hb]at z)
theorem YL(pq:PId)(a c:Int)(u:TUnit)(hu:OkB u)(hb:bA pq u=false):
    kD 16 [.agg [iV a,iV c],eU u,.ptr 0 0 0 0,.ptr 1 0 0 0] (av [iQ pq,dq]) (.tuple []) (av [iQ pq,dq]):=YM pq a c u hu hb
theorem ZR(pq:PId)(a c:Int)(u:TUnit)(hu:OkB u)(hb:By (bA pq u) true):
    kD 16 [.agg [iV a,iV c],eU u,.ptr 0 0 0 0,.ptr 1 0 0 0] (av [iQ pq,dq]) (.tuple []) (av [iQ pq,gr 2 0 1,lO 0 [nZ pq ⟨a,c⟩ u]]):=
  LM pq ⟨a,c⟩ u _ _ _ _ (by have z:=mN hu pq;rwa[hb]at z) (gg hu pq)
theorem ZP(pq:PId)(a c:Int)(u:TUnit)(ep n:Nat)(out:List PVer)(hu:OkB u)(hb:By (bA pq u) false):
    kD 16 [.agg [iV a,iV c],eU u,.ptr 0 0 0 0,.ptr 1 0 0 0] (av [iQ pq,gr 2 ep n,lO ep out]) (.tuple []) (av [iQ pq,gr 2 ep n,lO ep out]):=
  Sp pq ⟨a,c⟩ u _ ep n out (by have z:=mN hu pq;rwa[hb]at z)
theorem alk{u:TUnit}{out:List PVer}(hf:AM out)(hn0:0<out.length){pq:PId}{s:PSpan}(hu:OkB u)(hb:bA pq u=true):kP 19 [cV (gD out (out.length-1)),cV (nZ pq s u)] (.bool (pg jU (gD out (out.length-1)) (nZ pq s u))):=by
  obtain⟨a1,a2⟩:=hf _ (ib (show out.length-1<out.length by omega))
  obtain⟨b1,b2⟩:=KB (s:=s) hu hb
  exact Sx _ _ (Zc a1 b1 a2 b2)
theorem ZO(pq:PId)(a c:Int)(u:TUnit)(ep n:Nat)(out:List PVer)(hu:OkB u)(hb:By (bA pq u) true)(hn:n=out.length)(hn0:0<n)(hn2:n<2^30)(hf:AM out)(hm:By (ql jU (gD out (out.length-1)) (nZ pq ⟨a,c⟩ u)) false):
    kD 16 [.agg [iV a,iV c],eU u,.ptr 0 0 0 0,.ptr 1 0 0 0] (av [iQ pq,gr 2 ep n,lO ep out]) (.tuple []) (av [iQ pq,gr 2 (ep+1) (n+1),lO (ep+1) (out++[nZ pq ⟨a,c⟩ u])]):=by
  have hfd:kP 17 [eU u,aK pq] (.tuple [eU (dh pq u),.bool true]):=by have z:=mN hu pq;rwa[hb]at z
  have ha:=alk (s:=⟨a,c⟩) hf (by omega) hu hb
  have hz:aC 0 (Int.ofNat n)=true:=ko (by simp only[oN];omega)
  subst hn
  cases h1:ah (gD out (out.length-1)).to a with
  |false=>exact LL pq ⟨a,c⟩ u _ _ _ _ ep _ out rfl hn0 hz hn2 hfd (gg hu pq) h1
  | true=>
    have h2:pg jU (gD out (out.length-1)) (nZ pq ⟨a,c⟩ u)=false:=by
      have z:(ah (gD out (out.length-1)).to a&&pg jU (gD out (out.length-1)) (nZ pq ⟨a,c⟩ u))=false:=hm
      rwa[h1,Bool.true_and]at z
    rw[h2]at ha
    exact LI pq ⟨a,c⟩ u _ _ _ _ ep _ out rfl hn0 hz hn2 hfd (gg hu pq) h1 ha
theorem ZN(pq:PId)(a c:Int)(u:TUnit)(ep n:Nat)(out:List PVer)(hu:OkB u)(hb:By (bA pq u) true)(hn:n=out.length)(hn0:0<n)(hn2:n<2^30)(hf:AM out)(hm:By (ql jU (gD out (out.length-1)) (nZ pq ⟨a,c⟩ u)) true):
    kD 16 [.agg [iV a,iV c],eU u,.ptr 0 0 0 0,.ptr 1 0 0 0] (av [iQ pq,gr 2 ep n,lO ep out]) (.tuple []) (av [iQ pq,gr 2 ep n,lO ep (out.set (out.length-1) (ER (gD out (out.length-1)) c))]):=by
  have hfd:kP 17 [eU u,aK pq] (.tuple [eU (dh pq u),.bool true]):=by have z:=mN hu pq;rwa[hb]at z
  have ha:=alk (s:=⟨a,c⟩) hf (by omega) hu hb
  have hz:aC 0 (Int.ofNat n)=true:=ko (by simp only[oN];omega)
  subst hn
  obtain⟨h1,h2⟩:=n5.1 (show(ah (gD out (out.length-1)).to a&&pg jU (gD out (out.length-1)) (nZ pq ⟨a,c⟩ u))=true from hm)
  rw[h2]at ha
  exact Ol pq ⟨a,c⟩ u _ _ _ _ ep _ out rfl hn0 hz hn2 hfd (gg hu pq) h1 ha
theorem JN{pq:PId}{out:List PVer}{s:PSpan}{u:TUnit}(h:out≠[]):dZ jU pq out s u≠[]:=by
  unfold dZ
  cases bA pq u with
  |false=>exact h
  | true=>
    rw[cond_true]
    cases aC 0 (.ofNat out.length)&&ql jU (gD out (out.length-1)) (nZ pq s u)with
    | true=>
      intro e
      have:=congrArg List.length e
      rw[cond_true,lS]at this
      exact h (qJ this)
    |false=>intro e;cases out<;>cases e
theorem xI{pq:PId}{out:List PVer}{s:PSpan}{u:TUnit}:(dZ jU pq out s u).length≤out.length+1:=by
  unfold dZ
  cases bA pq u with
  |false=>exact mh _
  | true=>
    rw[cond_true]
    cases aC 0 (.ofNat out.length)&&ql jU (gD out (out.length-1)) (nZ pq s u)with
    |true=>rw[cond_true,lS];exact mh _
    |false=>rw[cond_false,lA];exact ao _
theorem E0{pq:PId}{out:List PVer}{s:PSpan}{u:TUnit}(h:AM out)(hu:OkB u):AM (dZ jU pq out s u):=by
  unfold dZ
  cases hb:bA pq u with
  |false=>exact h
  | true=>
    rw[cond_true]
    cases hm:aC 0 (.ofNat out.length)&&ql jU (gD out (out.length-1)) (nZ pq s u)with
    | true=>
      have hl:=ap (n5.1 hm).1
      exact On h (by simp only[oN]at hl;omega)
    |false=>exact Oo h (KB hu hb)
theorem ZM(pq:PId)(a c:Int)(u:TUnit)(hu:OkB u)(hb:By (bA pq u) true):
    kD 16 [.agg [iV a,iV c],eU u,.ptr 0 0 0 0,.ptr 1 0 0 0] (av [iQ pq,dq]) (.tuple []) (av [iQ pq,gr 2 ((dZ jU pq [] ⟨a,c⟩ u).length -1) (dZ jU pq [] ⟨a,c⟩ u).length,lO ((dZ jU pq [] ⟨a,c⟩ u).length -1) (dZ jU pq [] ⟨a,c⟩ u)]):=by
  have e:dZ jU pq [] ⟨a,c⟩ u=[nZ pq ⟨a,c⟩ u]:=by unfold dZ;rw[hb];rfl
  rw[e];exact ZR pq a c u hu hb
theorem YI(pq:PId)(a c:Int)(u:TUnit)(out:List PVer)(hu:OkB u)(hne:out≠[])(hn2:out.length<2^30)(hf:AM out):
    kD 16 [.agg [iV a,iV c],eU u,.ptr 0 0 0 0,.ptr 1 0 0 0] (av [iQ pq,gr 2 (out.length-1) out.length,lO (out.length-1) out]) (.tuple []) (av [iQ pq,gr 2 ((dZ jU pq out ⟨a,c⟩ u).length -1) (dZ jU pq out ⟨a,c⟩ u).length,lO ((dZ jU pq out ⟨a,c⟩ u).length -1) (dZ jU pq out ⟨a,c⟩ u)]):=by
  have hp:0<out.length:=pt.2 hne
  cases hb:bA pq u with
  | false=>
    have e:dZ jU pq out ⟨a,c⟩ u=out:=by unfold dZ;rw[hb];rfl
    rw[e];exact ZP pq a c u _ _ out hu hb
  | true=>
    have hz:aC 0 (.ofNat out.length)=true:=ko (by simp only[oN];omega)
    cases hm:ql jU (gD out (out.length-1)) (nZ pq ⟨a,c⟩ u)with
    | false=>
      have e:dZ jU pq out ⟨a,c⟩ u=out++[nZ pq ⟨a,c⟩ u]:=by unfold dZ;rw[hb,hm,wY];rfl
      have e2:(out++[nZ pq ⟨a,c⟩ u]).length=out.length+1:=by rw[lA];rfl
      rw[e,e2,Nat.add_sub_cancel]
      have z:=ZO pq a c u (out.length-1) out.length out hu hb rfl hp hn2 hf hm
      rwa[Nat.sub_add_cancel hp]at z
    | true=>
      have e:dZ jU pq out ⟨a,c⟩ u=out.set (out.length-1) (ER (gD out (out.length-1)) c):=by unfold dZ;rw[hb,hm,hz];rfl
      rw[e,lS]
      exact ZN pq a c u (out.length-1) out.length out hu hb rfl hp hn2 hf hm
/-- What the rounds of the stretches have done. -/
structure VerA(V:List PVer)(pq:PId)(b:Int→TUnit)(B E:List Int)(r:List Int):Prop where
  v:V=yd jU pq b (E.drop (B.length-r.length)) []
structure VerB(V:List PVer)(pq:PId)(b:Int→TUnit)(B E:List Int)(r:List Int)(out:List PVer):Prop where
  v:V=yd jU pq b (E.drop (B.length-r.length)) out
  ne:out≠[]
  len:out.length+r.length≤B.length
  fit:AM out
section
variable{V:List PVer}{pq:PId}{b:Int→TUnit}{B E r:List Int}{w F:Int}{j:Nat}{out:List PVer}
theorem R0(hd:B.drop j=w::r):j<B.length∧B.length-(w::r).length=j∧B.length-r.length=j+1:=by
  have:=congrArg List.length hd
  rw[wX,lC]at this
  rw[lC];omega
theorem xC(hE:E=B++[F])(hd:B.drop j=w::r):yd jU pq b (E.drop j) out=yd jU pq b (E.drop (j+1)) (dZ jU pq out ⟨w,gD E (j+1)⟩ (b w)):=by
  obtain⟨h1,_,_⟩:=R0 hd
  have hl:E.length=B.length+1:=by rw[hE,lA];rfl
  have e1:E.drop j=w::E.drop (j+1):=by
    rw[rg (show j<E.length by omega)]
    congr 1
    rw[hE,UJ h1]
    have z:=rg h1
    rw[hd]at z
    exact(List.cons.inj z).1.symm
  have e2:=rg (show j+1<E.length by omega)
  rw[e1,e2];rfl
theorem VerA.no(h:VerA V pq b B E (w::r))(hE:E=B++[F])(hd:B.drop j=w::r)(hu:bA pq (b w)=false):VerA V pq b B E r:=by
  obtain⟨_,q2,q3⟩:=R0 hd
  refine⟨by rw[h.v,q2,q3,xC hE hd];unfold dZ;rw[hu];rfl⟩
theorem VerA.new(h:VerA V pq b B E (w::r))(hE:E=B++[F])(hd:B.drop j=w::r)(hb:OkB (b w))(hu:bA pq (b w)=true):VerB V pq b B E r (dZ jU pq [] ⟨w,gD E (j+1)⟩ (b w)):=by
  obtain⟨q1,q2,q3⟩:=R0 hd
  have:=xI (pq:=pq) (out:=[]) (s:=⟨w,gD E (j+1)⟩) (u:=b w)
  refine⟨by rw[h.v,q2,q3,xC hE hd],by unfold dZ;rw[hu];exact mW _ _,by rw[lN]at this;omega,E0 (fun v hv=>by cases hv) hb⟩
theorem VerB.step(h:VerB V pq b B E (w::r) out)(hE:E=B++[F])(hd:B.drop j=w::r)(hb:OkB (b w)):VerB V pq b B E r (dZ jU pq out ⟨w,gD E (j+1)⟩ (b w)):=by
  obtain⟨_,q2,q3⟩:=R0 hd
  have q4:=h.len
  have:=xI (pq:=pq) (out:=out) (s:=⟨w,gD E (j+1)⟩) (u:=b w)
  rw[lC]at q4
  exact⟨by rw[h.v,q2,q3,xC hE hd],JN h.ne,by omega,E0 h.fit hb⟩
theorem VerA.end_(h:VerA V pq b B E [])(hE:E=B++[F]):V=[]:=by
  have e:E.drop (B.length-([]:List Int).length)=[F]:=by rw[hE];simp
  rw[h.v,e];rfl
theorem VerB.end_(h:VerB V pq b B E [] out)(hE:E=B++[F]):V=out:=by
  have e:E.drop (B.length-([]:List Int).length)=[F]:=by rw[hE];simp
  rw[h.v,e];rfl
end
/-- The versions of a unit. -/
noncomputable def j5(gs:List PGaz)(pq:PId)(p:aO):List PVer:=yd jU pq (fun a=>dI a p gs) (cj gs++[1048577]) []
theorem RL{R B:List Int}(h:R.take B.length=B)(hl:B.length<R.length):(R.set B.length 1048577).take (B.length+1)=B++[1048577]:=by
  rw[xG (by rw[lS];exact hl),List.take_set_of_le (ao _),h,IM hl,if_pos rfl]
theorem ub{E B:List Int}(h:E=B++[1048577]):E.take (E.length-1)=B∧E=E.take (E.length-1)++[1048577]:=by
  have e:E.take (E.length-1)=B:=by rw[h,lA];simp
  exact⟨e,by rw[e];exact h⟩
theorem XB{gs:List PGaz}{pq:PId}{p:aO}{E:List Int}(h:E=cj gs++[1048577]):VerA (j5 gs pq p) pq (fun a=>dI a p gs) (E.take (E.length-1)) E (E.take (E.length-1)):=⟨by rw[Nat.sub_self,h];rfl⟩
theorem JC{pq:PId}{b:Int→TUnit}:∀(l:List Int)(out:List PVer),out≠[]→yd jU pq b l out≠[]
  |[],_,h=>h
  |[_],_,h=>h
  |a::c::r,out,h=>JC (c::r) _ (JN h)
theorem VerA.none{V:List PVer}{pq:PId}{b:Int→TUnit}{B E r:List Int}{w F:Int}{j:Nat}(h:VerA V pq b B E (w::r))(hE:E=B++[F])(hd:B.drop j=w::r)(hV:V=[]):bA pq (b w)=false:=by
  cases hu:bA pq (b w)with
  |false=>rfl
  | true=>
    obtain⟨_,q2,_⟩:=R0 hd
    have z:=h.v
    rw[q2,xC hE hd,hV]at z
    refine absurd z.symm (JC _ _ ?_)
    unfold dZ
    rw[hu];exact mW _ _
def O0(gs:List PGaz)(pq:PId)(p:aO)(z6:List Int):Prop:=z6=cj gs++[(1048577:Int)]
noncomputable def OT(gs:List PGaz)(pq:PId)(p:aO)(z6:List Int):List AV×List AObj:=([AV.str p,AV.ls (gs.map al),AV.func (Fn.func 16) [] [AV.ptr 0 0 0 0,AV.ptr 1 0 0 0],AV.ls (z6.map ak)],[AObj.row 3 false 0 [AV.agg [iV pq.a,iV pq.i,iV pq.n]],AObj.row 1 false 0 [AV.nils]])
theorem XG(gs:List PGaz)(pq:PId)(p:aO)(ok:OkG gs)(hV:j5 gs pq p=[]):
    kD 15 [.str p,.ls (gs.map al),.func (.func 16) [] [.ptr 0 0 0 0,.ptr 1 0 0 0]] (av [iQ pq,dq]) (.tuple []) (av [iQ pq,dq]):=by
  have hbk:∀d,kP 27 [iV d,.str p,.ls (gs.map al)] (eU (dI d p gs)):=fun d=>ok.book d p
  have hob:∀d,OkB (dI d p gs):=fun d=>ok.okB d p
  have q1:=bpA ok pq
  have q2:=bpB ok pq
  have hl:=Hv gs
  obtain⟨hR1,hR2⟩:=RM gs
  let q:=[aa [iV pq.a,iV pq.i,iV pq.n]];let q3:=List.map ak (((lq gs).set (cj gs).length 1048577).take ((cj gs).length+1));let q4:=List.map ak (lq gs++[1048577]);let q5:=[iV 0,iV 1048577];let q6:=[aD 3 (As gs) 0 (Zv gs).length none];let q7:=[iV 1048577];exact ed Tryz.func15 fun a=>Mj (List Int) [0,1,2,6] (OT gs pq p) (O0 gs pq p) (fun a=>Ms (RN gs).isEmpty (fun b=>Ms (aC (Int.ofNat (cj gs).length)<|Int.ofNat (lq gs).length) (fun c=>have:=ap c;Ke 0 (q1 b)<|K1 1 (.frz 2 [0,1,2,12]) (bT rt rt ti)<|Kl 0 6 (Le.lsp (t:=false) (Eq.symm<|FL (f:=ak) (g:=ak) (ws:=[0,1048577]) fun _=>rfl) (aY 0:aq (q5)=0))<|Mf<|a [0,1048577] (by(rw[uG (by assumption)];rfl):[(0:Int),(1048577:Int)]=cj gs++[(1048577:Int)])) fun c=>have:=aG c;Ke 0 (q1 b)<|K1 1 (.frz 2 [0,1,2,12]) (bT rt rt ti)<|Kl 0 6 (Le.lsp (t:=false) (Eq.symm<|FL (f:=ak) (g:=ak) (ws:=[0,1048577]) fun _=>rfl) (aY 0:aq (q5)=0))<|Mf<|a [0,1048577] (by(rw[uG (by assumption)];rfl):[(0:Int),(1048577:Int)]=cj gs++[(1048577:Int)])) fun b=>Ms (aC (Int.ofNat (cj gs).length)<|Int.ofNat (lq gs).length) (fun c=>have:=ap c;Ke 0 (q2 b)<|Mg 0<|Mw (.opv (aD 3 (As gs) 0 ((cj gs).length+1) none) (av [aZ 3 false 0 q,aZ 1 false 0 [ay],aZ 1 false 0 q6,aZ 1 true (As gs)<|((lq gs).set (cj gs).length 1048577).map ak])<|.fsl 2 [0,1,2] 12 q3<|.le 12 (aW q3)<|.go 0 .fin)<|vG (R5 (sz:=1) (b:=8) (id:=3) (ep:=As gs) (len:=(cj gs).length) (op:=true) (h:=av [aZ 3 false 0 q,aZ 1 false 0 [ay],aZ 1 false 0 q6,aZ 1 true (As gs)<|(lq gs).map ak]) (xs:=List.map ak<|lq gs) (new:=q7) (xs':=List.map ak<|(lq gs).set (cj gs).length 1048577) (x:=iR q7 true) (by kernel_rfl) (by kernel_rfl) rt (mW _ _) (bR (by(simp only[oN,lM,lS]at *;omega):(cj gs).length+1≤(lq gs).length)<|rN (b7 ..).symm) (Bu (f:=ak) (g:=ak) (fun _=>rfl) (l:=lq gs) (k:=(cj gs).length) (w:=1048577) (by(simp only[oN,lM,lS]at *;omega):(cj gs).length<(lq gs).length)) (by(refine cJ (m:=2^22) ?_ ?_ ?_<;>first|omega|decide):small ((cj gs).length+1) 8=true)) (bT rt rt ti) (bT (aY<|As gs) (we (f:=ak) (l:=(lq gs).set (cj gs).length 1048577) (n:=(cj gs).length+1))<|aX JK<|((lq gs).set (cj gs).length 1048577).take<|(cj gs).length+1) (e9 q3 false<|aX JK<|((lq gs).set (cj gs).length 1048577).take<|(cj gs).length+1)<|a (((lq gs).set (cj gs).length 1048577).take<|(cj gs).length+1) (by(exact RL hR2 (by(simp only[oN]at *;omega))):List.take ((cj gs).length+1) ((lq gs).set (cj gs).length (1048577:Int))=cj gs++[(1048577:Int)])) fun c=>have:=aG c;Ke 0 (q2 b)<|K1 0 .app (bT (aY<|As gs) (by(rw[lM];(simp only[oN]at *;omega)):(cj gs).length=((lq gs).map ak).length) (by(refine cJ (m:=2^22) ?_ ?_ ?_<;>first|omega|decide):small ((cj gs).length+1) 8=true))<|M1 (.obj 3<|aZ 1 true (As gs+1) q4) (congrArg (aZ 1 true<|As gs+1)<|ce (f:=ak) (l:=lq gs) (ws:=[1048577]))<|M2 (.fsl 2 [0,1,2] 12 q4) (bT rt rt ti) (bT (aY<|As gs+1) (tA ak (lq gs++[1048577]) ((cj gs).length+1) (by(rw[lA];simp only[lC,lN];(simp only[oN]at *;omega)):(lq gs++[1048577]).length=(cj gs).length+1))<|aX JK<|lq gs++[1048577])<|Ml 12 (e9 q4 false<|aX JK<|lq gs++[1048577])<|Kf 0<|a (lq gs++[1048577]) (by(rw[show lq gs=cj gs from(by rw[←hR2,wW (by(simp only[oN]at *;omega))])]):lq gs++[(1048577:Int)]=cj gs++[(1048577:Int)])) fun b c=>have c:=c;have:b.length=(cj gs).length+1:=(by rw[c,lA];rfl);have:(b.take (b.length-1)).length=b.length-1:=(by rw[List.length_take];omega);Kl 2 15 (ln ak b)<|Kl 0 16 (wj b.length)<|M1 (.slp<|(b.take<|b.length-1).map ak) (bT (hM 1 ak b fun _=>rfl) (et (oA:0≤b.length-1) (by(simp only[oN,lM,lS]at *;omega):b.length-1≤(b.map ak).length))<|VU (f:=ak) (l:=b) (h:=b.length-1))<|Kl 0 18 (ln ak<|List.take (b.length-1) b)<|Mg 0<|uT ak (List.take (b.length-1) b) [0,1,2,6,17,18,19] (fun a _=>([ax p,aW<|gs.map al,bY (bV 16) [] [bz 0 0 0 0,bz 1 0 0 0],aW<|b.map ak,aW<|(b.take<|b.length-1).map ak,nV (b.take<|b.length-1).length,nV a],[aZ 3 false 0 [aa [iV pq.a,iV pq.i,iV pq.n]],aZ 1 false 0 [ay]])) (fun a=>VerA (j5 gs pq p) pq (fun a=>dI a p gs) (b.take<|b.length-1) b a) (by(exact XB c)) (fun _ _ _ _ _ b _=>Kh 0 b<|Mf a) fun a _ e _ f g h i j _ k l=>Kt 0 j<|Kx 0 k<|Mg 6<|Ma (iP a)<|Mx (aT ak (by(simp only[oN,lM,lS]at *;omega):a+1<(b).length))<|Kp 4 (hbk f)<|M3 (.efx true (bP [])<|av [aZ 3 false 0 q,aZ 1 false 0 [ay]]) (bT rt rt ti) (bT (aY<|some<|aZ 1 false 0 [ay]) (aY<|some<|aZ 3 false 0 q) ti) (YL pq f (gD b<|a+1) (dI f p gs) (by exact hob _)<|by exact l.none (ub c).2 (e.trans i) hV)<|Kl 0 37 (iP a)<|Kf 0<|h<|by exact l.no (ub c).2 (e.trans i) (l.none (ub c).2 (e.trans i) hV)
def OS(gs:List PGaz)(pq:PId)(p:aO)(z6:List Int):Prop:=z6=cj gs++[(1048577:Int)]
noncomputable def OR(gs:List PGaz)(pq:PId)(p:aO)(z6:List Int):List AV×List AObj:=([AV.str p,AV.ls (gs.map al),AV.func (Fn.func 16) [] [AV.ptr 0 0 0 0,AV.ptr 1 0 0 0],AV.ls (z6.map ak)],[AObj.row 3 false 0 [AV.agg [iV pq.a,iV pq.i,iV pq.n]],AObj.row 1 false 0 [AV.nils]])
def H3(gs:List PGaz)(pq:PId)(p:aO)(z6:List Int)(x0:Nat×List Int×Unit):Prop:=(z6.take (z6.length-1)).drop x0.1=x0.2.1∧VerA (j5 gs pq p) pq (fun a=>dI a p gs) (z6.take (z6.length-(1:Nat))) z6 x0.2.1
noncomputable def yp(gs:List PGaz)(pq:PId)(p:aO)(z6:List Int)(x0:Nat×List Int×Unit):List AV×List AObj:=([AV.str p,AV.ls (gs.map al),AV.func (Fn.func 16) [] [AV.ptr 0 0 0 0,AV.ptr 1 0 0 0],AV.ls (z6.map ak),AV.ls ((z6.take (z6.length-1)).map ak),nV (z6.take (z6.length-1)).length,nV x0.1],[AObj.row 3 false 0 [AV.agg [iV pq.a,iV pq.i,iV pq.n]],AObj.row 1 false 0 [AV.nils]])
def H2(gs:List PGaz)(pq:PId)(p:aO)(z6:List Int)(x0:Nat×List Int×List PVer):Prop:=(z6.take (z6.length-1)).drop x0.1=x0.2.1∧VerB (j5 gs pq p) pq (fun a=>dI a p gs) (z6.take (z6.length-(1:Nat))) z6 x0.2.1 x0.2.2
noncomputable def H0(gs:List PGaz)(pq:PId)(p:aO)(z6:List Int)(x0:Nat×List Int×List PVer):List AV×List AObj:=([AV.str p,AV.ls (gs.map al),AV.func (Fn.func 16) [] [AV.ptr 0 0 0 0,AV.ptr 1 0 0 0],AV.ls (z6.map ak),AV.ls ((z6.take (z6.length-1)).map ak),nV (z6.take (z6.length-1)).length,nV x0.1],[AObj.row 3 false 0 [AV.agg [iV pq.a,iV pq.i,iV pq.n]],AObj.row 1 false 0 [AV.slice 2 (x0.2.2.length-1) 0 x0.2.2.length none],AObj.row 14 true (x0.2.2.length-1) (x0.2.2.map cV)])
theorem XF(gs:List PGaz)(pq:PId)(p:aO)(ok:OkG gs)(hV:j5 gs pq p≠[]):
    kD 15 [.str p,.ls (gs.map al),.func (.func 16) [] [.ptr 0 0 0 0,.ptr 1 0 0 0]] (av [iQ pq,dq]) (.tuple []) (av [iQ pq,gr 2 ((j5 gs pq p).length -1) (j5 gs pq p).length,lO ((j5 gs pq p).length -1) (j5 gs pq p)]):=by
  have hbk:∀d,kP 27 [iV d,.str p,.ls (gs.map al)] (eU (dI d p gs)):=fun d=>ok.book d p
  have hob:∀d,OkB (dI d p gs):=fun d=>ok.okB d p
  have q1:=bpA ok pq
  have q2:=bpB ok pq
  have hl:=Hv gs
  obtain⟨hR1,hR2⟩:=RM gs
  let q3:=[aa [iV pq.a,iV pq.i,iV pq.n]];let q4:=List.map ak (((lq gs).set (cj gs).length 1048577).take ((cj gs).length+1));let q5:=List.map ak (lq gs++[1048577]);let q6:=[iV 0,iV 1048577];let q7:=bP [];let q8:=[aD 3 (As gs) 0 (Zv gs).length none];let q9:=[iV 1048577];exact Jt Tryz.func15<|Mj (List Int) [0,1,2,6] (OR gs pq p) (OS gs pq p) (fun a=>Ms (RN gs).isEmpty (fun b=>Ms (aC (Int.ofNat (cj gs).length)<|Int.ofNat (lq gs).length) (fun c=>have:=ap c;Ke 0 (q1 b)<|K1 1 (.frz 2 [0,1,2,12]) (bT rt rt ti)<|Kl 0 6 (Le.lsp (t:=false) (Eq.symm<|FL (f:=ak) (g:=ak) (ws:=[0,1048577]) fun _=>rfl) (aY 0:aq (q6)=0))<|Mf<|a [0,1048577] (by(rw[uG (by assumption)];rfl):[(0:Int),(1048577:Int)]=cj gs++[(1048577:Int)])) fun c=>have:=aG c;Ke 0 (q1 b)<|K1 1 (.frz 2 [0,1,2,12]) (bT rt rt ti)<|Kl 0 6 (Le.lsp (t:=false) (Eq.symm<|FL (f:=ak) (g:=ak) (ws:=[0,1048577]) fun _=>rfl) (aY 0:aq (q6)=0))<|Mf<|a [0,1048577] (by(rw[uG (by assumption)];rfl):[(0:Int),(1048577:Int)]=cj gs++[(1048577:Int)])) fun b=>Ms (aC (Int.ofNat (cj gs).length)<|Int.ofNat (lq gs).length) (fun c=>have:=ap c;Ke 0 (q2 b)<|Mg 0<|Mw (.opv (aD 3 (As gs) 0 ((cj gs).length+1) none) (av [aZ 3 false 0 q3,aZ 1 false 0 [ay],aZ 1 false 0 q8,aZ 1 true (As gs)<|((lq gs).set (cj gs).length 1048577).map ak])<|.fsl 2 [0,1,2] 12 q4<|.le 12 (aW q4)<|.go 0 .fin)<|vG (R5 (sz:=1) (b:=8) (id:=3) (ep:=As gs) (len:=(cj gs).length) (op:=true) (h:=av [aZ 3 false 0 q3,aZ 1 false 0 [ay],aZ 1 false 0 q8,aZ 1 true (As gs)<|(lq gs).map ak]) (xs:=List.map ak<|lq gs) (new:=q9) (xs':=List.map ak<|(lq gs).set (cj gs).length 1048577) (x:=iR q9 true) (by kernel_rfl) (by kernel_rfl) rt (mW _ _) (bR (by(simp only[oN,lM,lS]at *;omega):(cj gs).length+1≤(lq gs).length)<|rN (b7 ..).symm) (Bu (f:=ak) (g:=ak) (fun _=>rfl) (l:=lq gs) (k:=(cj gs).length) (w:=1048577) (by(simp only[oN,lM,lS]at *;omega):(cj gs).length<(lq gs).length)) (by(refine cJ (m:=2^22) ?_ ?_ ?_<;>first|omega|decide):small ((cj gs).length+1) 8=true)) (bT rt rt ti) (bT (aY<|As gs) (we (f:=ak) (l:=(lq gs).set (cj gs).length 1048577) (n:=(cj gs).length+1))<|aX JK<|((lq gs).set (cj gs).length 1048577).take<|(cj gs).length+1) (e9 q4 false<|aX JK<|((lq gs).set (cj gs).length 1048577).take<|(cj gs).length+1)<|a (((lq gs).set (cj gs).length 1048577).take<|(cj gs).length+1) (by(exact RL hR2 (by(simp only[oN]at *;omega))):List.take ((cj gs).length+1) ((lq gs).set (cj gs).length (1048577:Int))=cj gs++[(1048577:Int)])) fun c=>have:=aG c;Ke 0 (q2 b)<|K1 0 .app (bT (aY<|As gs) (by(rw[lM];(simp only[oN]at *;omega)):(cj gs).length=((lq gs).map ak).length) (by(refine cJ (m:=2^22) ?_ ?_ ?_<;>first|omega|decide):small ((cj gs).length+1) 8=true))<|M1 (.obj 3<|aZ 1 true (As gs+1) q5) (congrArg (aZ 1 true<|As gs+1)<|ce (f:=ak) (l:=lq gs) (ws:=[1048577]))<|M2 (.fsl 2 [0,1,2] 12 q5) (bT rt rt ti) (bT (aY<|As gs+1) (tA ak (lq gs++[1048577]) ((cj gs).length+1) (by(rw[lA];simp only[lC,lN];(simp only[oN]at *;omega)):(lq gs++[1048577]).length=(cj gs).length+1))<|aX JK<|lq gs++[1048577])<|Ml 12 (e9 q5 false<|aX JK<|lq gs++[1048577])<|Kf 0<|a (lq gs++[1048577]) (by(rw[show lq gs=cj gs from(by rw[←hR2,wW (by(simp only[oN]at *;omega))])]):lq gs++[(1048577:Int)]=cj gs++[(1048577:Int)])) fun a b=>have b:=b;have:a.length=(cj gs).length+1:=(by rw[b,lA];rfl);have:(a.take (a.length-1)).length=a.length-1:=(by rw[List.length_take];omega);Kl 2 15 (ln ak a)<|Kl 0 16 (wj a.length)<|M1 (.slp<|(a.take<|a.length-1).map ak) (bT (hM 1 ak a fun _=>rfl) (et (oA:0≤a.length-1) (by(simp only[oN,lM,lS]at *;omega):a.length-1≤(a.map ak).length))<|VU (f:=ak) (l:=a) (h:=a.length-1))<|Kl 0 18 (ln ak<|List.take (a.length-1) a)<|Mg 0<|MM (Nat×List Int×Unit) (Nat×List Int×List PVer) [0,1,2,6,17,18,19] (yp gs pq p a) (H0 gs pq p a) (H3 gs pq p a) (H2 gs pq p a) (fun a=>a.2.1.length) (fun a=>a.2.1.length) (.inl (0,List.take (a.length-1) a,())) (aY<|yp gs pq p a (0,List.take (a.length-1) a,())) (et (rfl:List.drop 0 (a.take (a.length-1))=List.take (a.length-1) a) (by(exact XB b):(VerA (j5 gs pq p) pq (fun a=>dI a p gs) (a.take (a.length-1)) a (a.take (a.length-1))))) (fun c e f=>Mi (fun b _=>VerA (j5 gs pq p) pq (fun a=>dI a p gs) (a.take<|a.length-1) a b) ak e (fun _ a c=>Kh 0 a<|Mw .abs (by exact hV (c.end_ (ub b).2):False)) fun g h i j _ k l=>Kt 0 j<|Kx 0 k<|Ks 2 (bA pq<|dI g p gs) (fun j=>Mg 3<|Ma (iP c.1)<|Mx (aT ak (by(simp only[oN,lM,lS]at *;omega):c.1+1<(a).length))<|Kp 4 (hbk g)<|M3 (.efx false q7<|av [aZ 3 false 0 q3,aZ 1 false 0 [aD 2 ((dZ jU pq [] (PSpan.mk g<|gD a<|c.1+1)<|dI g p gs).length -1) 0 (dZ jU pq [] (PSpan.mk g<|gD a<|c.1+1)<|dI g p gs).length none],aZ 14 true ((dZ jU pq [] (PSpan.mk g<|gD a<|c.1+1)<|dI g p gs).length -1)<|(dZ jU pq [] (PSpan.mk g<|gD a<|c.1+1)<|dI g p gs).map cV]) (bT rt rt ti) ti (ZM pq g (gD a<|c.1+1) (dI g p gs) (by exact hob _) j)<|Kl 0 37 (iP c.1)<|Kf 0<|f (.inr (c.1+1,h,dZ jU pq [] (PSpan.mk g<|gD a<|c.1+1)<|dI g p gs)) (et (bW e.1 i) (by exact l.new (ub b).2 (e.1.trans i) (hob _) (by assumption):(VerB (j5 gs pq p) pq (fun a=>dI a p gs) (a.take (a.length-1)) a h (dZ jU pq [] (PSpan.mk g (gD a (c.1+1))) (dI g p gs)))))<|du i) fun j=>Mg 3<|Ma (iP c.1)<|Mx (aT ak (by(simp only[oN,lM,lS]at *;omega):c.1+1<(a).length))<|Kp 4 (hbk g)<|M3 (.efx true q7<|av [aZ 3 false 0 q3,aZ 1 false 0 [ay]]) (bT rt rt ti) (bT (aY<|some<|aZ 1 false 0 [ay]) (aY<|some<|aZ 3 false 0 q3) ti) (YM pq g (gD a<|c.1+1) (dI g p gs) (by exact hob _) j)<|Kl 0 37 (iP c.1)<|Kf 0<|f (.inl (c.1+1,h,())) (et (bW e.1 i) (by exact l.no (ub b).2 (e.1.trans i) (by assumption):(VerA (j5 gs pq p) pq (fun a=>dI a p gs) (a.take (a.length-1)) a h)))<|du i) fun c e f=>Mc c.2.1 (fun f=>have g:=fY e.1 f;have a:=gL (J:=fun b c=>VerB (j5 gs pq p) pq (fun a=>dI a p gs) (a.take<|a.length-1) a b c) (a:=c.2.2) f e.2;Kh 0 g<|Mf<|et (aY q7) (by(rw[a.end_ (ub b).2];try rfl):(av [AObj.row 3 false 0 [AV.agg [iV pq.a,iV pq.i,iV pq.n]],AObj.row 1 false 0 [AV.slice 2 (c.2.2.length-1) 0 c.2.2.length none],AObj.row 14 true (c.2.2.length-1) (c.2.2.map cV)])=(av [iQ pq,gr 2 ((j5 gs pq p).length -1) (j5 gs pq p).length,lO ((j5 gs pq p).length -1) (j5 gs pq p)]))) fun g h i=>let j:=av [aZ 3 false 0 q3,aZ 1 false 0 [aD 2 ((dZ jU pq c.2.2 (PSpan.mk g<|gD a<|c.1+1)<|dI g p gs).length -1) 0 (dZ jU pq c.2.2 (PSpan.mk g<|gD a<|c.1+1)<|dI g p gs).length none],aZ 14 true ((dZ jU pq c.2.2 (PSpan.mk g<|gD a<|c.1+1)<|dI g p gs).length -1)<|(dZ jU pq c.2.2 (PSpan.mk g<|gD a<|c.1+1)<|dI g p gs).map cV];have k:=fm e.1 i;have:=ap k;have l:=fV (enc:=ak) e.1 i;have n:=ca (J:=fun b c=>VerB (j5 gs pq p) pq (fun a=>dI a p gs) (a.take<|a.length-1) a b c) (a:=c.2.2) i e.2;Kt 0 k<|Kx 0 l<|Ks 2 (bA pq<|dI g p gs) (fun _=>Mg 3<|Ma (iP c.1)<|Mx (aT ak (by(simp only[oN,lM,lS]at *;omega):c.1+1<(a).length))<|Kp 4 (hbk g)<|M3 (.efx false q7 j) (jv (tR 14 true (c.2.2.length-1) 3<|aX iH c.2.2) rt rt ti) ti (YI pq g (gD a<|c.1+1) (dI g p gs) c.2.2 (by exact hob _) (by exact n.ne) (by(have z:=n.len;omega))<|by exact n.fit)<|Kl 0 37 (iP c.1)<|Kf 0<|f (.inr (c.1+1,h,dZ jU pq c.2.2 (PSpan.mk g<|gD a<|c.1+1)<|dI g p gs)) (et (bW e.1 i) (by exact n.step (ub b).2 (e.1.trans i) (hob _):(VerB (j5 gs pq p) pq (fun a=>dI a p gs) (a.take (a.length-1)) a h (dZ jU pq c.2.2 (PSpan.mk g (gD a (c.1+1))) (dI g p gs)))))<|du i) fun _=>Mg 3<|Ma (iP c.1)<|Mx (aT ak (by(simp only[oN,lM,lS]at *;omega):c.1+1<(a).length))<|Kp 4 (hbk g)<|M3 (.efx false q7 j) (jv (tR 14 true (c.2.2.length-1) 3<|aX iH c.2.2) rt rt ti) ti (YI pq g (gD a<|c.1+1) (dI g p gs) c.2.2 (by exact hob _) (by exact n.ne) (by(have z:=n.len;omega))<|by exact n.fit)<|Kl 0 37 (iP c.1)<|Kf 0<|f (.inr (c.1+1,h,dZ jU pq c.2.2 (PSpan.mk g<|gD a<|c.1+1)<|dI g p gs)) (et (bW e.1 i) (by exact n.step (ub b).2 (e.1.trans i) (hob _):(VerB (j5 gs pq p) pq (fun a=>dI a p gs) (a.take (a.length-1)) a h (dZ jU pq c.2.2 (PSpan.mk g (gD a (c.1+1))) (dI g p gs)))))<|du i
theorem VD(gs:List PGaz)(pq:PId)(p:aO)(ok:OkG gs)(hV:j5 gs pq p=[]):kP 7 [aK pq,.str p,.ls (gs.map al)] (.ls (([]:List PVer).map cV)):=by
  have hs:=XG gs pq p ok hV
  exact bI Tryz.func7<|Ke 5 hs<|Kf 1 be
theorem VC(gs:List PGaz)(pq:PId)(p:aO)(ok:OkG gs)(hV:j5 gs pq p≠[]):kP 7 [aK pq,.str p,.ls (gs.map al)] (.ls ((j5 gs pq p).map cV)):=by
  have hs:=XF gs pq p ok hV
  generalize j5 gs pq p=V at *
  let q:=List.map cV V;exact bI Tryz.func7<|Ke 5 hs<|Mg 1<|M2 (.fsl 0 [] 6 q) ti (bT (aY<|V.length-1) (tA cV V V.length rfl)<|aX iH V)<|Ml 6 (e9 q false<|aX iH V)<|Mf<|bd<|aW q
theorem EN(gs:List PGaz)(pq:PId)(p:aO)(ok:OkG gs):kP 7 [aK pq,.str p,.ls (gs.map al)] (.ls ((j5 gs pq p).map cV)):=by
  by_cases h:j5 gs pq p=[]
  · have z:=VD gs pq p ok h
    rw[h];exact z
  · exact VC gs pq p ok h
/-- A row of one word at most is compact. -/
theorem YH(pq:PId)(ep n:Nat)(l:List aO)(hn:n=l.length)(h1:aC (Int.ofNat n) 2=true):kD 24 [.slice 1 ep 0 n none] (av [iQ pq,BX ep l]) (.slice 1 ep 0 n none) (av [iQ pq,BX ep l]):=by
  exact ed Tryz.func24 fun a=>Kt 3 h1<|Kf 1 a
theorem Qx(gs:List PGaz)(pq:PId)(p:aO)(V:List PVer)(hV:kP 7 [aK pq,.str p,.ls (gs.map al)] (.ls (V.map cV)))(hl:V.length=1):kP 13 [aK pq,.str p,.ls (gs.map al)] (.ls ((V.map fun v=>v.unit.label).map m0)):=by
  have rr0 b' (h:((V.map (fun v=>v.unit.label)).map m0)=b':=by first|rfl|(rw[hj0.2.1,wZ,ec])|(exfalso;rw[←hj0]at hl;exact absurd hl (by decide))):=h;exact bI Tryz.func13<|Kp 5 hV<|Kl 0 14 (ln cV V)<|Mg 0<|kg Nat Nat (List aO) cV V [7,13,14,15] (fun a _=>([ay,aW<|V.map cV,nV V.length,nV a],[aZ 3 false 0 [aa [iV pq.a,iV pq.i,iV pq.n]]])) (fun a _ b c d=>([aD 1 b 0 c none,aW<|V.map cV,nV V.length,nV a],[aZ 3 false 0 [aa [iV pq.a,iV pq.i,iV pq.n]],aZ 1 true b<|d.map m0])) (fun a=>a=V) (fun a _ b c=>b=c.length∧List.map (fun v=>v.unit.label) V=c++List.map (fun v=>v.unit.label) a∧b+a.length=1) (by rfl) (fun _ _ _ _ _ a hj0=>Kh 0 a<|Kf 2 (Le.lsn<|rr0 []:Le _ (ay))) (fun a _ _ _ b c _ d _ e _ f hj0=>Kt 0 e<|Mx f<|Kl 10 25 (dc a)<|Mg 0<|M0 (.ren [0,2,1] [] [7,13,14,15])<|M1 (.frz 2 [7,13,14,15]) (bT rt rt ti)<|Mf<|d 0 1 [b.unit.label]<|by exact⟨rfl,by rw[←hj0];rfl,by rw[←hj0]at hl;simp only[lC,lN]at *;omega⟩) (fun _ _ a b c _ _ _ d hj0=>let e:=List.map m0 c;Kh 0 d<|Ke 0 (YH pq a b c (by(omega))<|by exact ko (by(have z:=hj0.2.2;simp only[lN]at z;(simp only[oN]at *;omega))))<|Mg 0<|M2 (.fsl 0 [] 6 e) ti (bT (aY a) (tA m0 c b (by(omega):(c).length=b))<|aX JW c)<|Ml 6 (e9 e false<|aX JW c)<|Mf<|cY<|rr0 e) fun a _ b c d _ _ e f _ g _ i _ j hj0=>Kt 0 i<|Mx j<|K1 7 .app (bT (aY b) (by(rw[lM];exact hj0.1):c=(d.map m0).length) (by(have z:=hj0.2.2;simp only[lC]at z;refine cJ (m:=10) ?_ ?_ ?_<;>first|omega|decide):small (c+1) 16=true))<|M1 (.obj 1<|aZ 1 true (b+1)<|(d++[e.unit.label]).map m0) (congrArg (aZ 1 true<|b+1)<|ce (f:=m0) (l:=d) (ws:=[e.unit.label]))<|Kl 1 25 (dc a)<|K1 0 (.frz 2 [7,13,14,15]) (bT (tR 1 true (b+1) 2<|aX JW<|d++[e.unit.label]) rt ti)<|Mf<|g (b+1) (c+1) (d++[e.unit.label])<|by exact⟨by rw[lA,←hj0.1];rfl,by rw[hj0.2.1];simp,by(have z:=hj0.2.2;simp only[lC]at z;omega)⟩
def UP(a i:Int)(d:PDeed):Bool:=ah d.act a&&ah d.item i
theorem Q9(d:PDeed)(a i:Int):kP 38 [aU d,.pptr [iV a] 0 0,.pptr [iV i] 0 0] (.bool (UP a i d)):=by
  have rr0 b' (h:(UP a i d)=b':=by(simp only[UP,bq,aS,aj,bS, *];first|done|rfl)):=h;exact bI Tryz.func38<|Kj 6 d.act a (fun b _=>Kt 0 b<|Kt 0 b<|Kt 0 b<|Ku 0 b<|Kf 0<|ch<|rr0<|ah d.item i) fun b _=>Mh b<|Mh b<|Mh b<|My b<|Ky 0<|rr0 false
theorem Wo(l:List PDeed)(a i:Int)(hl:l.length<2^40):kP 37 [.ls (l.map aU),.func (.func 38) [] [.pptr [iV a] 0 0,.pptr [iV i] 0 0]] (iV (dY (UP a i) l 0)):=by
  have rr0 b' (h:(dY (UP a i) l 0)=b':=by first|exact lV zD0 hr0 hj0 ‹_› |exact hj0):=h;exact bI Tryz.func37<|Kl 2 7 (ln aU l)<|Mg 0<|uT aU l [0,1,7,8] (fun b _=>([aW<|l.map aU,bY (bV 38) [] [AV.pptr [iV a] 0 0,AV.pptr [iV i] 0 0],nV l.length,nV b],[])) (fun b=>dY (UP a i) l (0:Nat)=dY (UP a i) b (l.length-b.length)) (by(exact Ny)) (fun _ _ zD0 _ hr0 b hj0=>Kh 0 b<|Kf 0<|li<|rr0 (-1)) fun b _ zD0 _ c d e hr0 f _ g hj0=>Kt 0 f<|Kx 4 g<|Kp 0 (Q9 c a i)<|Mb (UP a i c) (fun _=>Kf 1<|li<|rr0<|Int.ofNat b) fun _=>Kl 0 18 (dc b)<|Kf 0<|e<|by exact jf zD0 hr0 hj0 (by assumption)
theorem Qp{q:PDeed→Bool}:∀(l:List PDeed)(n:Nat),dY q l n= -1∨∃k:Nat,dY q l n=Int.ofNat (n+k)∧k<l.length
  |[],n=>.inl rfl
  | x::r,n=>by
    unfold dY
    cases q x with
    |true=>exact .inr ⟨0,rfl,wQ _⟩
    | false=>
      rcases Qp r (n+1)with h|⟨k,h1,h2⟩
      · exact .inl h
      · exact .inr ⟨k+1,by rw[cond_false,h1];congr 1;omega,by rw[lC];omega⟩
theorem Uz(a i:Int)(gs:List PGaz)(ds:List PDeed)(hd:ds.length<2^30)(hi:kP 36 [.ls (gs.map al)] (.ls (ds.map aU)))(hx:kP 37 [.ls (ds.map aU),.func (.func 38) [] [.pptr [iV a] 0 0,.pptr [iV i] 0 0]] (iV (-1))):kP 22 [iV a,iV i,.ls (gs.map al)] (.tuple [aU default,.bool false]):=by
  exact bI Tryz.func22<|Kp 4 hi<|Mg 2<|M0 (.ren [2,0,1] [] [6,8,12,13])<|M1 (.frz 1 [6,8,12,13]) (et rt ti)<|Mp hx<|Kf 6 (ct<|.cons (aP (lc<|lc<|lc<|lc<|.cons be<|.cons be<|lc<|lc<|lc<|lc<|lc<|lc<|lc<|.cons be<|.cons be<|.cons be<|.cons be<|.cons be<|lc<|lc<|lc<|lc<|lc<|lc<|lc<|lc<|lc<|.cons be .nil)<|by kernel_rfl)<|lc .nil:Le _ (bP [aa [iV 0,iV 0,iV 0,iV 0,ay,ay,iV 0,iV 0,iV 0,iV 0,iV 0,iV 0,ax [],ay,ay,ay,ay,ay,ax [],ax [],iV 0,iV 0,ax [],iV 0,iV 0,iV 0,ax [],ay],eC false]))
theorem Ux(a i:Int)(gs:List PGaz)(ds:List PDeed)(k:Nat)(hk:k<ds.length)(hd:ds.length<2^30)(hi:kP 36 [.ls (gs.map al)] (.ls (ds.map aU)))(hx:kP 37 [.ls (ds.map aU),.func (.func 38) [] [.pptr [iV a] 0 0,.pptr [iV i] 0 0]] (iV (Int.ofNat k)))(hz:aC (Int.ofNat k) 0=false):kP 22 [iV a,iV i,.ls (gs.map al)] (.tuple [aU (gD ds k),.bool true]):=by
  exact bI Tryz.func22<|Kp 4 hi<|Mg 2<|M0 (.ren [2,0,1] [] [6,8,12,13])<|M1 (.frz 1 [6,8,12,13]) (et rt ti)<|Mp hx<|Kx 5 (aT aU (oA:k<(ds).length))<|Kf 2<|bd<|bP [aa [iV (gD ds k).act,iV (gD ds k).item,iV (gD ds k).day,iV (gD ds k).it.kind,aW<|List.map az (gD ds k).it.at_,aW<|List.map az (gD ds k).it.to,iV (gD ds k).it.where_,iV (gD ds k).it.nth_,iV (gD ds k).it.unit.act,iV (gD ds k).it.unit.item,iV (gD ds k).it.unit.n,iV (gD ds k).it.unit.kind,ax (gD ds k).it.unit.label,aW<|List.map aQ (gD ds k).it.unit.head,aW<|List.map aQ (gD ds k).it.unit.words,aW<|List.map aV (gD ds k).it.unit.kids,aW<|List.map m0 (gD ds k).it.old,aW<|List.map m0 (gD ds k).it.new,ax (gD ds k).it.label,ax (gD ds k).it.for_,iV (gD ds k).it.start.kind,iV (gD ds k).it.start.day,ax (gD ds k).it.start.event,iV (gD ds k).it.act,iV (gD ds k).it.item,iV (gD ds k).it.day,ax (gD ds k).it.event,aW<|List.map NA (gD ds k).it.by_],eC true]
theorem Vw(gs:List PGaz)(d:PDeed)(ok:Bool)(hf:kP 22 [iV 0,iV 0,.ls (gs.map al)] (.tuple [aU d,.bool ok])):kP 11 [aK ⟨0,0,0⟩,.ls (gs.map al)] (.tuple [.agg [iV 0,iV 0],.bool false]):=by
  let q:=bP [aa [iV 0,iV 0],eC false];exact bI Tryz.func11<|Kp 7 hf<|Kn 8 ok (fun a=>Mt (cS a)<|Mt (cS a)<|Mt (cS a)<|MV (cS a)<|Kf 7<|bd q) fun a=>Kh 0 (cD a)<|Kh 0 (cD a)<|Kh 0 (cD a)<|Kw 0 (cD a)<|Kc 0 d.it.kind 0 (fun a _=>Mt (cS a)<|Mt (cS a)<|MV (cS a)<|Kf 5<|bd q) fun a _=>Kh 0 (cD a)<|Kh 0 (cD a)<|Kw 0 (cD a)<|Kf 5<|bd q
theorem Pp{gs:List PGaz}(h:OkG gs):kP 11 [aK ⟨0,0,0⟩,.ls (gs.map al)] (.tuple [.agg [iV 0,iV 0],.bool false]):=by
  have hl:=h.lens
  have hx:=Wo (fp gs) 0 0 (by omega)
  rcases Qp (q:=UP 0 0) (fp gs) 0 with e|⟨k,e,hk⟩
  · rw[e]at hx
    exact Vw gs _ _ (Uz 0 0 gs _ (by omega) h.all.2 hx)
  · rw[fZ]at e
    rw[e]at hx
    exact Vw gs _ _ (Ux 0 0 gs _ k hk (by omega) h.all.2 hx (lk (by simp only[oN];omega)))
theorem PY:kP 12 [.ls ([([]:aO)].map m0),.ps [.str []] true] (.bool true):=aM.closed (C:=C) (k:=20) iJ (ev 20) rfl (by kernel_rfl)
theorem QW(gs:List PGaz)(p:aO)(hf:oa gs):kP 6 [.ls (gs.map al),.str p] (.bool (GD gs p)):=by
  have h:=Uw gs p hf
  exact bI Tryz.func6<|Kp 2 h<|Kf 0<|bd<|eC<|GD gs p
def Pz:PVer:=⟨0,1048577,⟨0,0,0⟩,-1,⟨0,0,0,0,[],[],[],[]⟩⟩
theorem Ym(gs:List PGaz)(p:aO)(haw:kP 5 [] (.bool true))(hw:kP 6 [.ls (gs.map al),.str p] (.bool false)):kP 4 [.ls (gs.map al),.str p] (.bool true):=by
  exact bI Tryz.func4<|Kp 0 haw<|Kp 3 hw<|Kf 2<|bd<|eC true
theorem Yn(gs:List PGaz)(p:aO)(haw:kP 5 [] (.bool true))(hw:kP 6 [.ls (gs.map al),.str p] (.bool true))
    (hv:kP 7 [aK ⟨0,0,0⟩,.str p,.ls (gs.map al)] (.ls ([Pz].map cV)))
    (ho:kP 11 [aK ⟨0,0,0⟩,.ls (gs.map al)] (.tuple [.agg [iV 0,iV 0],.bool false]))
    (hl:kP 13 [aK ⟨0,0,0⟩,.str p,.ls (gs.map al)] (.ls ([([]:aO)].map m0))):kP 4 [.ls (gs.map al),.str p] (.bool true):=by
  exact bI Tryz.func4<|Kp 0 haw<|Kp 3 hw<|Kp 4 hv<|Kp 2 ho<|Kp 31 hl<|Kp 0 PY<|Kf 1<|bd<|eC true
theorem Lp:∀(l:List PDeed)(u:TUnit),OkB u→(∀d,d∈l→wC d.it)→Rt u (dx u l)
  |[],_,_,_=>rfl
  |d::r,u,hu,hl=>(Lp r (pB u d) (E1 hu (hl d (eN ..))) fun x hx=>hl x (fQ _ hx)).trans (O3 hu (hl d (eN ..)))
theorem F0:∀(r:List Int)(a F:Int),oV a (r++[F])=F
  |[],_,_=>rfl
  |c::r,a,F=>F0 r c F
theorem XA{gs:List PGaz}(ok:OkG gs)(p:aO):j5 gs ⟨0,0,0⟩ p=[Pz]:=by
  obtain⟨_,_,r,hr⟩:=Lm gs
  unfold j5
  rw[hr,wU,Om (fun u=>(Uc u u).2 rfl) (R:=eY uc []) (fun a=>?_) _ _ (by simp),F0]
  · rfl
  · have z:=Lp (vF a p gs) uc JU (ok.force a p).2.1
    exact⟨XO z,z⟩
/-- The law of the root, whole. -/
theorem Na(gs:List PGaz)(p:aO)(hf:oa gs)(haw:kP 5 [] (.bool true)):kP 4 [.ls (gs.map al),.str p] (.bool true):=by
  have hw:=QW gs p hf
  cases hb:GD gs p with
  |false=>rw[hb]at hw;exact Ym gs p haw hw
  | true=>
    rw[hb]at hw
    have ok:=(WX hf hb).1
    have hv:=EN gs ⟨0,0,0⟩ p ok
    rw[XA ok p]at hv
    exact Yn gs p haw hw hv (Pp ok) (Qx gs ⟨0,0,0⟩ p [Pz] hv rfl)
end Go.Proofs.YtjokefckffbpeaaGreatDoor
