/- Functions walked: what each of them answers, for the law of disjoint versions: part 8. Conditions: those that each theorem names. -/
import Derived.Test.YtjokefckffbpeaaGreatDoorH7
namespace Go.Proofs.YtjokefckffbpeaaGreatDoor
open Go Go.Ev
noncomputable def Ho(s:PSpan):List Int:=match aC s.to 1048577 with|true=>[s.from_,s.to]|false=>[s.from_]
noncomputable def cD:List PSpan→List Int
  |[]=>[]
  |s::r=>Ho s++cD r
theorem Ed{s:PSpan}(h:aC s.to 1048577=true):Ho s=[s.from_,s.to]:=by simp only[Ho,h]
theorem Ee{s:PSpan}(h:aC s.to 1048577=false):Ho s=[s.from_]:=by simp only[Ho,h]
theorem R4(s:PSpan):(Ho s).length≤2:=by unfold Ho;cases aC s.to 1048577<;>simp
theorem DZ:∀(l:List PSpan),(cD l).length≤2*l.length
  |[]=>ao _
  | s::r=>by
    have:=DZ r;have:=R4 s
    simp only[cD,lA,lC];omega
theorem Bs(l:List PSpan)(hl:l.length<2^30):kP 44 [.ls (l.map aJ)] (.ls ((cD (fc l)).map ak)):=by
  have hn:=fV l hl
  have hq:=(jT l).len
  generalize fc l=N at *
  have rr0 b' (h:((cD N).map ak)=b':=by first|rfl|exact aX Jx _|(rw[hj0];rfl)|(rw[hj0.2.2];simp[cD])):=h;exact bM Tryz.func44<|Kp 2 hn<|Kl 0 8 (ln aJ N)<|Mg 0<|kr Nat Nat (List Int) aJ N [3,7,8,9] (fun a _=>([ab,aW<|N.map aJ,nV N.length,nV a],[])) (fun a _ b c d=>([aE 0 b 0 c none,aW<|N.map aJ,nV N.length,nV a],[aZ 1 true b<|d.map ak])) (fun a=>cD N=cD a) (fun a _ b c=>b=c.length∧c.length+2*a.length≤2^21+10∧cD N=c++cD a) (by rfl) (fun _ _ _ _ _ a hj0=>Kh 0 a<|Kf 1 (Le.lsn<|rr0 []:Le _ (ab))) (fun a _ b _ c d _ e f g _ i hj0=>Kt 0 g<|Mx i<|Ka 11 c.to 1048577 (fun _ _=>Kl 6 26 (dq a)<|Mg 0<|M0 (.ren [1,0] [] [3,7,8,9])<|M1 (.frz 1 [3,7,8,9]) (et rt ti)<|Mf<|e 1 2 [c.from_,c.to]<|by exact⟨rfl,by(have:=ge b f;simp only[lC,lN]<;>(omega)),by rw[hj0,cD];first|rw[Ed (by assumption)]|rw[Ee (by assumption)]⟩) fun _ _=>Kl 0 26 (dq a)<|Mg 0<|M0 (.ren [1,0] [] [3,7,8,9])<|M1 (.frz 1 [3,7,8,9]) (et rt ti)<|Mf<|e 0 1 [c.from_]<|by exact⟨rfl,by(have:=ge b f;simp only[lC,lN]<;>(omega)),by rw[hj0,cD];first|rw[Ed (by assumption)]|rw[Ee (by assumption)]⟩) (fun _ _ a b c _ _ _ d hj0=>Kh 0 d<|Mg 1<|M2 (.fsl 0 [] 2<|c.map ak) ti (b6 (aY a) (tA ak c b (by(omega):(c).length=b))<|aX Jx c)<|Ml 2 (eT (c.map ak) false<|aX Jx c)<|Mf<|cV<|rr0<|c.map ak) fun a _ b c d _ _ e f _ g _ i _ j hj0=>Kt 0 i<|Mx j<|K1 6 .app (b6 (aY b) (by(rw[lM];exact hj0.1):c=(d.map ak).length) (by(have z:=hj0.2.1;refine cj (m:=2^22) ?_ ?_ ?_<;>first|(omega)|(simp only[lA,lC,lN]<;>(first|omega|(simp only[oN]at *;omega)))):small (c+1) 8=true))<|M1 (.obj 0<|aZ 1 true (b+1)<|(d++[e.from_]).map ak) (congrArg (aZ 1 true<|b+1)<|co (f:=ak) (l:=d) (ws:=[e.from_]))<|Ka 3 e.to 1048577 (fun _ _=>K1 3 .app (b6 (aY<|b+1) (by(simp only[lM,lA,lC,lN]<;>(omega)):c+1=((d++[e.from_]).map ak).length) (by(have z:=hj0.2.1;refine cj (m:=2^22) ?_ ?_ ?_<;>first|(omega)|(simp only[lA,lC,lN]<;>(first|omega|(simp only[oN]at *;omega)))):small (c+1+1) 8=true))<|M1 (.obj 0<|aZ 1 true (b+1+1)<|(d++[e.from_]++[e.to]).map ak) (congrArg (aZ 1 true<|b+1+1)<|co (f:=ak) (l:=d++[e.from_]) (ws:=[e.to]))<|Kl 1 26 (dq a)<|K1 0 (.frz 1 [3,7,8,9]) (et (tR 1 true (b+1+1) 1<|aX Jx<|d++[e.from_]++[e.to]) ti)<|Mf<|g (b+1+1) (c+1+1) (d++[e.from_]++[e.to])<|by exact⟨by(simp only[lA,lC,lN]<;>(omega)),by(have z:=hj0.2.1;simp only[lA,lC,lN]at * <;>(omega)),by rw[hj0.2.2,cD];first|(rw[Ed (by assumption)];simp)|(rw[Ee (by assumption)];simp)⟩) fun _ _=>Kl 0 26 (dq a)<|K1 0 (.frz 1 [3,7,8,9]) (et (tR 1 true (b+1) 1<|aX Jx<|d++[e.from_]) ti)<|Mf<|g (b+1) (c+1) (d++[e.from_])<|by exact⟨by(simp only[lA,lC,lN]<;>(omega)),by(have z:=hj0.2.1;simp only[lA,lC,lN]at * <;>(omega)),by rw[hj0.2.2,cD];first|(rw[Ed (by assumption)];simp)|(rw[Ee (by assumption)];simp)⟩
noncomputable abbrev nC:AObj:=.row 1 false 0 [.ps [iV 0] true]
noncomputable abbrev jl(i ep n:Nat):AObj:=.row 1 false 0 [.slice i ep 0 n none]
theorem QZ{α:Type}{f:α→AV}{l:List α}(h:0<l.length):l.map f≠[]:=by
  intro e;have:=congrArg List.length e;simp at this;subst this;simp at h
theorem Vs(pq:PId)(d:PDeed)(ss:List PSpan)(B:List Int)(m:List (Int×PStart))(hB:kP 44 [.ls (ss.map aJ)] (.ls (B.map ak)))(hb:B.length=0):
    kD 43 [aU d,.ls (ss.map aJ),.ptr 2 0 0 0] (av [iw pq,dU,nC,bh m,de d]) (.tuple []) (av [iw pq,dU,nC,bh m,de d]):=by
  let q:=[ay [iV d.act,iV d.item,iV d.day,iV d.it.kind,aW (d.it.at_.map az),aW (d.it.to.map az),iV d.it.where_,iV d.it.nth_,iV d.it.unit.act,iV d.it.unit.item,iV d.it.unit.n,iV d.it.unit.kind,aj d.it.unit.label,aW (d.it.unit.head.map aQ),aW (d.it.unit.words.map aQ),aW (d.it.unit.kids.map aV),aW (d.it.old.map nW),aW (d.it.new.map nW),aj d.it.label,aj d.it.for_,iV d.it.start.kind,iV d.it.start.day,aj d.it.start.event,iV d.it.act,iV d.it.item,iV d.it.day,aj d.it.event,aW (d.it.by_.map NE)]];let q1:=AHeap.mk 6 (bA (av [aZ 3 false 0 [ay [iV pq.a,iV pq.i,iV pq.n]],aZ 1 false 0 [ab],aZ 1 false 0 [i7 [iV 0] true],AObj.map (bv aw m 0) m.length,aZ 28 false 0 q,aZ 28 false 0 q]) ([]) Tr.nil);let q2:=[iV 0];exact eg Tryz.func43 fun a=>Kp 2 hB<|Mw (.opv (i7 q2 true) q1<|.go 0<|.frz 5 [] .fin)<|vS rt rt (N5 (f:=ak) (l:=B) (sz:=1) (b:=8) (xs:=q2) (t:=true) (h:=q1) (by(omega):(B).length=0)) (re rt (tM m.length 5<|af (f:=aw) (fun _=>rfl) m 0) rt rt rt ti) a
theorem YS(pq:PId)(d:PDeed)(ss:List PSpan)(B:List Int)(m:List (Int×PStart))(hB:kP 44 [.ls (ss.map aJ)] (.ls (B.map ak)))(hb:0<B.length)(hb2:B.length<2^30):
    kD 43 [aU d,.ls (ss.map aJ),.ptr 2 0 0 0] (av [iw pq,dU,nC,bh m,de d]) (.tuple []) (av [iw pq,dU,jl 5 0 (([0]++B).map ak).length,bh m,de d,n5 0 ([0]++B)]):=by
  let q:=List.map ak ([0]++B);exact eg Tryz.func43 fun a=>Kp 2 hB<|M4 (.apx q) rt rt (et (by exact QZ hb:List.map ak B≠[])<|fM 1 ak B fun _=>rfl) (et (et (aY q) (by(refine cj (m:=2^32) ?_ ?_ ?_<;>first|(omega)|(simp only[lA,lM,lC,lN]<;>(omega))):small (([iV 0]).length+(B.map ak).length) 8=true)) rt)<|Mg 0<|M2 (.ren [0,1,2,3,4,6,5] [3,6] []) (tN m.length<|af (f:=aw) (fun _=>rfl) m 0) (tS 1 true 0<|aX Jx<|[0]++B)<|M1 (.frz 6 []) (D9 (tR 1 true 0 6<|aX Jx<|[0]++B) rt (tM m.length 6<|af (f:=aw) (fun _=>rfl) m 0) rt rt rt ti)<|Mf a
theorem YR(pq:PId)(d:PDeed)(ss:List PSpan)(B:List Int)(m:List (Int×PStart))(ep n:Nat)(out:List Int)(hB:kP 44 [.ls (ss.map aJ)] (.ls (B.map ak)))(hb:B.length=0):
    kD 43 [aU d,.ls (ss.map aJ),.ptr 2 0 0 0] (av [iw pq,dU,jl 4 ep n,bh m,n5 ep out,de d]) (.tuple []) (av [iw pq,dU,jl 4 ep n,bh m,n5 ep out,de d]):=by
  let q:=[ay [iV d.act,iV d.item,iV d.day,iV d.it.kind,aW (d.it.at_.map az),aW (d.it.to.map az),iV d.it.where_,iV d.it.nth_,iV d.it.unit.act,iV d.it.unit.item,iV d.it.unit.n,iV d.it.unit.kind,aj d.it.unit.label,aW (d.it.unit.head.map aQ),aW (d.it.unit.words.map aQ),aW (d.it.unit.kids.map aV),aW (d.it.old.map nW),aW (d.it.new.map nW),aj d.it.label,aj d.it.for_,iV d.it.start.kind,iV d.it.start.day,aj d.it.start.event,iV d.it.act,iV d.it.item,iV d.it.day,aj d.it.event,aW (d.it.by_.map NE)]];let q1:=AHeap.mk 7 (bA (av [aZ 3 false 0 [ay [iV pq.a,iV pq.i,iV pq.n]],aZ 1 false 0 [ab],aZ 1 false 0 [aE 4 ep 0 n none],AObj.map (bv aw m 0) m.length,aZ 1 true ep (out.map ak),aZ 28 false 0 q,aZ 28 false 0 q]) ([4]) Tr.nil);exact eg Tryz.func43 fun a=>Kp 2 hB<|Mw (.opv (aE 4 ep 0 n none) q1<|.go 0<|.frz 6 [] .fin)<|vS rt (iX (tR 1 true ep 7<|aX Jx out) rt) (R8 (f:=ak) (l:=B) (sz:=1) (b:=8) (id:=4) (ep:=ep) (off:=0) (len:=n) (cap:=none) (h:=q1) (by(omega):(B).length=0)) (D9 rt (tR 1 true ep 6<|aX Jx out) (tM m.length 6<|af (f:=aw) (fun _=>rfl) m 0) rt rt rt ti) a
theorem YP(pq:PId)(d:PDeed)(ss:List PSpan)(B:List Int)(m:List (Int×PStart))(ep n:Nat)(out:List Int)(hB:kP 44 [.ls (ss.map aJ)] (.ls (B.map ak)))(hb:0<B.length)(hn:n=out.length)(hn2:n+B.length<2^34):
    kD 43 [aU d,.ls (ss.map aJ),.ptr 2 0 0 0] (av [iw pq,dU,jl 4 ep n,bh m,n5 ep out,de d]) (.tuple []) (av [iw pq,dU,jl 4 (ep+1) (n+(B.map ak).length),bh m,n5 (ep+1) (out++B),de d]):=by
  exact eg Tryz.func43 fun a=>Kp 2 hB<|M4 (.apx<|(out++B).map ak) rt (iX (tR 1 true ep 7<|aX Jx out) rt) (et (by exact QZ hb:List.map ak B≠[])<|fM 1 ak B fun _=>rfl) (et (b6 (aY ep) (by(rw[lM];exact hn):n=(out.map ak).length) (by(refine cj (m:=2^36) ?_ ?_ ?_<;>first|(omega)|(simp only[lA,lM,lC,lN]<;>(omega))):small (n+(B.map ak).length) 8=true))<|co (f:=ak) (l:=out) (ws:=B))<|K1 0 (.frz 6 []) (D9 rt (tR 1 true (ep+1) 6<|aX Jx<|out++B) (tM m.length 6<|af (f:=aw) (fun _=>rfl) m 0) rt rt rt ti)<|Mf a
noncomputable def Br(m:List (Int×PStart))(ds:List PDeed)(d:PDeed):List Int:=match ct d.it.kind with|true=>cD (am (au m d.act) d ds)|false=>[]
noncomputable def jp(m:List (Int×PStart))(ds:List PDeed):List PDeed→List Int
  |[]=>[]
  |d::r=>Br m ds d++jp m ds r
theorem AO(s:PStart)(d:PDeed)(l:List PDeed):kP 44 [.ls ((am s d l).map aJ)] (.ls ((cD (am s d l)).map ak)):=by
  have hn:=nE s d l
  have h:=Bs (am s d l) (mp hn.len (by decide))
  have e:fc (am s d l)=am s d l:=(KL hn).symm
  rwa[e]at h
theorem wW{m:List (Int×PStart)}{ds r:List PDeed}{d:PDeed}(h:ct d.it.kind=true):jp m ds (d::r)=cD (am (au m d.act) d ds)++jp m ds r:=by simp only[jp,Br,h]
theorem Je{m:List (Int×PStart)}{ds r:List PDeed}{d:PDeed}(h:ct d.it.kind=false):jp m ds (d::r)=jp m ds r:=by simp only[jp,Br,h,ww]
theorem qM(s:PStart)(d:PDeed)(l:List PDeed):(cD (am s d l)).length≤2^22:=by
  have h:=DZ (am s d l);have:=(nE s d l).len;omega
theorem Qc{B:List Int}(h:B.isEmpty=true):B.length=0:=by rw[yb.1 h];rfl
theorem Vf{B:List Int}(h:B.isEmpty=false):0<B.length:=by
  cases B with
  |nil=>cases h
  |cons a r=>exact yc _
theorem Hf{B X:List Int}(h:B.isEmpty=true):B++X=X:=by rw[yb.1 h];rfl
theorem Xa(pq:PId)(s:PStart)(d:PDeed)(l:List PDeed)(m:List (Int×PStart))(hb:By (cD (am s d l)).isEmpty true):kD 43 [aU d,.ls ((am s d l).map aJ),.ptr 2 0 0 0] (av [iw pq,dU,nC,bh m,de d]) (.tuple []) (av [iw pq,dU,nC,bh m,de d]):=Vs pq d _ _ m (AO s d l) (Qc hb)
theorem Xb(pq:PId)(s:PStart)(d:PDeed)(l:List PDeed)(m:List (Int×PStart))(hb:(cD (am s d l)).isEmpty=true):kD 43 [aU d,.ls ((am s d l).map aJ),.ptr 2 0 0 0] (av [iw pq,dU,nC,bh m,de d]) (.tuple []) (av [iw pq,dU,nC,bh m,de d]):=Vs pq d _ _ m (AO s d l) (Qc hb)
theorem Xy(pq:PId)(s:PStart)(d:PDeed)(l:List PDeed)(m:List (Int×PStart))(hb:By (cD (am s d l)).isEmpty false):kD 43 [aU d,.ls ((am s d l).map aJ),.ptr 2 0 0 0] (av [iw pq,dU,nC,bh m,de d]) (.tuple []) (av [iw pq,dU,jl 5 0 (([0]++cD (am s d l)).map ak).length,bh m,de d,n5 0 ([0]++cD (am s d l))]):=YS pq d _ _ m (AO s d l) (Vf hb) (mp (qM s d l) (by decide))
theorem Xv(pq:PId)(s:PStart)(d:PDeed)(l:List PDeed)(m:List (Int×PStart))(ep n:Nat)(out:List Int)(hb:By (cD (am s d l)).isEmpty true):kD 43 [aU d,.ls ((am s d l).map aJ),.ptr 2 0 0 0] (av [iw pq,dU,jl 4 ep n,bh m,n5 ep out,de d]) (.tuple []) (av [iw pq,dU,jl 4 ep n,bh m,n5 ep out,de d]):=YR pq d _ _ m ep n out (AO s d l) (Qc hb)
theorem Xw(pq:PId)(s:PStart)(d:PDeed)(l:List PDeed)(m:List (Int×PStart))(ep n:Nat)(out:List Int)(hb:By (cD (am s d l)).isEmpty false)(hn:n=out.length)(hn2:n<2^33):kD 43 [aU d,.ls ((am s d l).map aJ),.ptr 2 0 0 0] (av [iw pq,dU,jl 4 ep n,bh m,n5 ep out,de d]) (.tuple []) (av [iw pq,dU,jl 4 (ep+1) (n+((cD (am s d l)).map ak).length),bh m,n5 (ep+1) (out++cD (am s d l)),de d]):=YP pq d _ _ m ep n out (AO s d l) (Vf hb) hn (by have:=qM s d l;omega)
noncomputable def bE(m:List (Int×PStart))(ds:List PDeed)(d:PDeed):Nat:=match(Br m ds d).isEmpty with|true=>0|false=>1
noncomputable def pO(m:List (Int×PStart))(ds:List PDeed):List PDeed→Nat
  |[]=>0
  |d::r=>bE m ds d+pO m ds r
theorem Y0{m:List (Int×PStart)}{ds:List PDeed}{d:PDeed}(h:ct d.it.kind=false):bE m ds d=0:=by simp only[bE,Br,h];rfl
theorem YT{m:List (Int×PStart)}{ds:List PDeed}{d:PDeed}(h:ct d.it.kind=true)(h2:(cD (am (au m d.act) d ds)).isEmpty=true):bE m ds d=0:=by simp only[bE,Br,h,h2]
theorem Y1{m:List (Int×PStart)}{ds:List PDeed}{d:PDeed}(h:ct d.it.kind=true)(h2:(cD (am (au m d.act) d ds)).isEmpty=false):bE m ds d=1:=by simp only[bE,Br,h,h2]
/-- What the rounds are to tell: 'A' nothing yet, 'B' something. -/
structure BrkA(m:List (Int×PStart))(ds r:List PDeed):Prop where
  f:jp m ds ds=jp m ds r
  e:pO m ds ds=pO m ds r
structure BrkB(m:List (Int×PStart))(ds r:List PDeed)(ep n:Nat)(out:List Int):Prop where
  len:n=out.length
  small:out.length+2^22*r.length≤2^22*ds.length+1
  f:[0]++jp m ds ds=out++jp m ds r
  e:pO m ds ds=ep+1+pO m ds r
theorem BrkA.no{m:List (Int×PStart)}{ds r:List PDeed}{d:PDeed}(h:BrkA m ds (d::r))(ha:ct d.it.kind=false):BrkA m ds r:=⟨by rw[h.f,Je ha],by rw[h.e];simp only[pO,Y0 ha,fw]⟩
theorem BrkA.nil{m:List (Int×PStart)}{ds r:List PDeed}{d:PDeed}(h:BrkA m ds (d::r))(ha:ct d.it.kind=true)(hb:(cD (am (au m d.act) d ds)).isEmpty=true):BrkA m ds r:=⟨by rw[h.f,wW ha,Hf hb],by rw[h.e];simp only[pO,YT ha hb,fw]⟩
theorem BrkA.new{m:List (Int×PStart)}{ds r:List PDeed}{d:PDeed}{n:Nat}(h:BrkA m ds (d::r))(hl:(d::r).length≤ds.length)(ha:ct d.it.kind=true)(hb:(cD (am (au m d.act) d ds)).isEmpty=false)(hn:n=(([0]++cD (am (au m d.act) d ds)).map ak).length):BrkB m ds r 0 n ([0]++cD (am (au m d.act) d ds)):=by
  have:=qM (au m d.act) d ds
  refine⟨by rw[hn,lM],by(rw[lA];simp only[lC,lN]at *;omega),by rw[h.f,wW ha,nh],by rw[h.e];show bE m ds d+pO m ds r=_;rw[Y1 ha hb]⟩
theorem BrkB.no{m:List (Int×PStart)}{ds r:List PDeed}{d:PDeed}{ep n:Nat}{out:List Int}(h:BrkB m ds (d::r) ep n out)(ha:ct d.it.kind=false):BrkB m ds r ep n out:=⟨h.len,by have:=h.small;simp only[lC]at this;omega,by rw[h.f,Je ha],by rw[h.e];simp only[pO,Y0 ha,fw]⟩
theorem BrkB.nil{m:List (Int×PStart)}{ds r:List PDeed}{d:PDeed}{ep n:Nat}{out:List Int}(h:BrkB m ds (d::r) ep n out)(ha:ct d.it.kind=true)(hb:(cD (am (au m d.act) d ds)).isEmpty=true):BrkB m ds r ep n out:=⟨h.len,by have:=h.small;simp only[lC]at this;omega,by rw[h.f,wW ha,Hf hb],by rw[h.e];simp only[pO,YT ha hb,fw]⟩
theorem BrkB.new{m:List (Int×PStart)}{ds r:List PDeed}{d:PDeed}{ep n k:Nat}{out:List Int}(h:BrkB m ds (d::r) ep n out)(ha:ct d.it.kind=true)(hb:(cD (am (au m d.act) d ds)).isEmpty=false)(hk:k=n+((cD (am (au m d.act) d ds)).map ak).length):BrkB m ds r (ep+1) k (out++cD (am (au m d.act) d ds)):=by
  have:=qM (au m d.act) d ds
  refine⟨by rw[hk,h.len,lM,lA],by(have:=h.small;simp only[lA,lC]at *;omega),by rw[h.f,wW ha,nh],by rw[h.e];simp only[pO,Y1 ha hb];omega⟩
theorem BrkB.done{m:List (Int×PStart)}{ds:List PDeed}{ep n:Nat}{out:List Int}(h:BrkB m ds [] ep n out):ep=pO m ds ds-1∧n=([0]++jp m ds ds).length∧out=[0]++jp m ds ds:=by
  have e1:=h.f
  simp only[jp,ec]at e1
  have e2:=h.e
  simp only[pO]at e2
  exact⟨by omega,by rw[e1];exact h.len,e1.symm⟩
theorem NR(pq:PId)(gs:List PGaz)(L:List PAct)(ds:List PDeed)(hL:L.length<10000)(hd:ds.length<2000)(ha:kP 55 [.ls (gs.map ap)] (.ls (L.map aa)))(hi:kP 36 [.ls (gs.map ap)] (.ls (ds.map aU)))(hE:jp (lV L []) ds ds=[]):
    kD 42 [.ls (gs.map ap),.func (.func 43) [] [.ptr 2 0 0 0]] (av [iw pq,dU,nC]) (.tuple []) (av [iw pq,dU,nC]):=by
  have hlk:=pK
  have hup:=rQ
  have hno:∀{m:List (Int×PStart)}{r:List PDeed}{d:PDeed},jp m ds (d::r)=[]→ct d.it.kind=true→(cD (am (au m d.act) d ds)).isEmpty=true:=fun h h2=>by
    rw[wW h2]at h;rw[(List.append_eq_nil_iff.1 h).1];rfl
  let q1:=[ay [iV pq.a,iV pq.i,iV pq.n]];let q2:=[i7 [iV 0] true];exact eg Tryz.func42 fun a=>Kp 2 ha<|Kl 0 13 (ln aa L)<|Mg 0<|LN aa L ([]:List (Int×PStart)) [0,1,4,12,13,14] (fun a _ b=>([aW<|gs.map ap,bU (bY 43) [] [bJ 2 0 0 0],AV.map 3,aW<|L.map aa,nV L.length,nV a],[aZ 3 false 0 [ay [iV pq.a,iV pq.i,iV pq.n]],aZ 1 false 0 [ab],aZ 1 false 0 [i7 [iV 0] true],AObj.map (bv aw b 0) b.length])) (fun a b=>lV L []=lV a b) (by rfl) (fun _ _ b _ _ _ c e=>Kh 0 c<|Kp 0 hi<|Kl 2 27 (ln aU ds)<|Mg 0<|VW (0:Nat) ds () [1,4,7,26,27,28] (fun a _ _=>([bU (bY 43) [] [bJ 2 0 0 0],AV.map 3,aW<|ds.map aU,aW<|ds.map aU,nV ds.length,nV a],[aZ 3 false 0 [ay [iV pq.a,iV pq.i,iV pq.n]],aZ 1 false 0 [ab],aZ 1 false 0 [i7 [iV 0] true],AObj.map (bv aw b 0) b.length])) (fun a c _=>(ds).drop a=c∧jp b ds c=[]) (fun _ a _=>a.length) (et rfl<|by(rw[←show lV L []=b from e];exact hE)) fun c e f g i=>Mc e (fun c=>have e:=fK g.1 c;have:=gP (J:=fun a _=>jp b ds a=[]) (a:=f) c g.2;Kh 0 e<|M1 (.frz 3 []) (jc rt rt rt ti)<|Mf a) fun a e j=>let k:=[ay [iV a.act,iV a.item,iV a.day,iV a.it.kind,aW<|a.it.at_.map az,aW<|a.it.to.map az,iV a.it.where_,iV a.it.nth_,iV a.it.unit.act,iV a.it.unit.item,iV a.it.unit.n,iV a.it.unit.kind,aj a.it.unit.label,aW<|a.it.unit.head.map aQ,aW<|a.it.unit.words.map aQ,aW<|a.it.unit.kids.map aV,aW<|a.it.old.map nW,aW<|a.it.new.map nW,aj a.it.label,aj a.it.for_,iV a.it.start.kind,iV a.it.start.day,aj a.it.start.event,iV a.it.act,iV a.it.item,iV a.it.day,aj a.it.event,aW<|a.it.by_.map NE]];have l:=ft g.1 j;have:=al l;have n:=fJ (enc:=aU) g.1 j;have f:=ch (J:=fun a _=>jp b ds a=[]) (a:=f) j g.2;Kt 0 l<|Mx n<|Kp 5 (jr a.it.kind)<|Mb (ct a.it.kind) (fun _=>K1 4 (.look<|ay [iV (au b a.act).kind,iV (au b a.act).day,aj (au b a.act).event]) (hlk b a.act)<|Kp 1 (gq (au b a.act) a ds<|by(omega))<|M3 (.efx true (b9 [])<|av [aZ 3 false 0 q1,aZ 1 false 0 [ab],aZ 1 false 0 q2,AObj.map (bv aw b 0) b.length,aZ 28 false 0 k]) (re rt (tM b.length 5<|af (f:=aw) (fun _=>rfl) b 0) rt rt rt ti) (re (aY<|some<|aZ 28 false 0 k) (aY<|some<|AObj.map (bv aw b 0) b.length) (aY<|some<|aZ 1 false 0 q2) (aY<|some<|aZ 1 false 0 [ab]) (aY<|some<|aZ 3 false 0 q1) ti) (Xb pq (au b a.act) a ds b<|by exact hno f (by assumption))<|Kl 0 46 (dq c)<|K1 0 (.frz 4 [1,4,7,26,27,28]) (vS (tM b.length 4<|af (f:=aw) (fun _=>rfl) b 0) rt rt rt ti)<|Mf<|i (c+1) e () (et (bW g.1 j)<|by(have z:=f;rw[wW (by assumption)]at z;exact(List.append_eq_nil_iff.1 z).2))<|dt j) fun _=>Kl 0 46 (dq c)<|K1 0 (.frz 4 [1,4,7,26,27,28]) (vS (tM b.length 4<|af (f:=aw) (fun _=>rfl) b 0) rt rt rt ti)<|Mf<|i (c+1) e () (et (bW g.1 j)<|by(have z:=f;rw[Je (by assumption)]at z;exact z))<|dt j) fun a _ b _ _ c e f _ g _ i j=>Kt 0 g<|Mx i<|K1 7 (.upd (bv aw (iW c.number c.start b) 0) (iW c.number c.start b).length) (hup b c)<|Kl 0 23 (dq a)<|K1 0 (.frz 4 [0,1,4,12,13,14]) (vS (tM (iW c.number c.start b).length 4<|af (f:=aw) (fun _=>rfl) (iW c.number c.start b) 0) rt rt rt ti)<|Mf<|f (iW c.number c.start b)<|by exact j
def AG(pq:PId)(gs:List PGaz)(L:List PAct)(x0:Nat×List PAct×List (Int×PStart)):Prop:=(L).drop x0.1=x0.2.1∧lV L []=lV x0.2.1 x0.2.2
noncomputable def qL(pq:PId)(gs:List PGaz)(L:List PAct)(x0:Nat×List PAct×List (Int×PStart)):List AV×List AObj:=([AV.ls (gs.map ap),AV.func (Fn.func 43) [] [AV.ptr 2 0 0 0],AV.map 3,AV.ls (L.map aa),nV L.length,nV x0.1],[AObj.row 3 false 0 [AV.agg [iV pq.a,iV pq.i,iV pq.n]],AObj.row 1 false 0 [AV.nils],AObj.row 1 false 0 [AV.ps [iV 0] true],AObj.map (bv aw x0.2.2 0) x0.2.2.length])
def AF(pq:PId)(ds:List PDeed)(x0:Nat×List PAct×List (Int×PStart))(x1:Nat×List PDeed×Unit):Prop:=(ds).drop x1.1=x1.2.1∧BrkA x0.2.2 ds x1.2.1
noncomputable def qH(pq:PId)(ds:List PDeed)(x0:Nat×List PAct×List (Int×PStart))(x1:Nat×List PDeed×Unit):List AV×List AObj:=([AV.func (Fn.func 43) [] [AV.ptr 2 0 0 0],AV.map 3,AV.ls (ds.map aU),AV.ls (ds.map aU),nV ds.length,nV x1.1],[AObj.row 3 false 0 [AV.agg [iV pq.a,iV pq.i,iV pq.n]],AObj.row 1 false 0 [AV.nils],AObj.row 1 false 0 [AV.ps [iV 0] true],AObj.map (bv aw x0.2.2 0) x0.2.2.length])
def AE(pq:PId)(ds:List PDeed)(x0:Nat×List PAct×List (Int×PStart))(x1:Nat×List PDeed×Nat×Nat×List Int):Prop:=(ds).drop x1.1=x1.2.1∧BrkB x0.2.2 ds x1.2.1 x1.2.2.1 x1.2.2.2.1 x1.2.2.2.2
noncomputable def AD(pq:PId)(ds:List PDeed)(x0:Nat×List PAct×List (Int×PStart))(x1:Nat×List PDeed×Nat×Nat×List Int):List AV×List AObj:=([AV.func (Fn.func 43) [] [AV.ptr 2 0 0 0],AV.map 3,AV.ls (ds.map aU),AV.ls (ds.map aU),nV ds.length,nV x1.1],[AObj.row 3 false 0 [AV.agg [iV pq.a,iV pq.i,iV pq.n]],AObj.row 1 false 0 [AV.nils],AObj.row 1 false 0 [AV.slice 4 x1.2.2.1 0 x1.2.2.2.1 none],AObj.map (bv aw x0.2.2 0) x0.2.2.length,AObj.row 1 true x1.2.2.1 (x1.2.2.2.2.map ak)])
theorem NP(pq:PId)(gs:List PGaz)(L:List PAct)(ds:List PDeed)(hL:L.length<10000)(hd:ds.length<2000)(ha:kP 55 [.ls (gs.map ap)] (.ls (L.map aa)))(hi:kP 36 [.ls (gs.map ap)] (.ls (ds.map aU)))(hE:jp (lV L []) ds ds≠[]):
    kD 42 [.ls (gs.map ap),.func (.func 43) [] [.ptr 2 0 0 0]] (av [iw pq,dU,nC]) (.tuple []) (av [iw pq,dU,jl 3 (pO (lV L []) ds ds-1) ([0]++jp (lV L []) ds ds).length,n5 (pO (lV L []) ds ds-1) ([0]++jp (lV L []) ds ds)]):=by
  have hlk:=pK
  have hup:=rQ
  let q3:=[ay [iV pq.a,iV pq.i,iV pq.n]];let q10:=b9 [];let q12:=some (aZ 1 false 0 [ab]);let q13:=[i7 [iV 0] true];let q14:=some (aZ 3 false 0 q3);exact JF Tryz.func42<|Kp 2 ha<|Kl 0 13 (ln aa L)<|Mg 0<|ML (Nat×List PAct×List (Int×PStart)) [0,1,4,12,13,14] (qL pq gs L) (AG pq gs L) (fun a=>a.2.1.length) (0,L,[]) (aY<|qL pq gs L (0,L,[])) (et (rfl:List.drop 0 (L)=L) (by rfl:(lV L []=lV L []))) fun a b c=>let d:=some<|AObj.map (bv aw a.2.2 0) a.2.2.length;Mi (fun a b=>lV L []=lV a b) aa b (fun _ b c=>Kh 0 b<|Kp 0 hi<|Kl 2 27 (ln aU ds)<|Mg 0<|MM (Nat×List PDeed×Unit) (Nat×List PDeed×Nat×Nat×List Int) [1,4,7,26,27,28] (qH pq ds a) (AD pq ds a) (AF pq ds a) (AE pq ds a) (fun a=>a.2.1.length) (fun a=>a.2.1.length) (.inl (0,ds,())) (aY<|qH pq ds a (0,ds,())) (et (rfl:List.drop 0 (ds)=ds) (by(exact⟨rfl,rfl⟩):(BrkA a.2.2 ds ds))) (fun b e f=>Mc b.2.1 (fun d=>have f:=fK e.1 d;have b:=gP (J:=fun b _=>BrkA a.2.2 ds b) (a:=b.2.2) d e.2;Kh 0 f<|Mw .abs (by exact hE (by rw[show lV L []=a.2.2 from c];exact b.f):False)) fun c g h=>let i:=[ay [iV c.act,iV c.item,iV c.day,iV c.it.kind,aW<|c.it.at_.map az,aW<|c.it.to.map az,iV c.it.where_,iV c.it.nth_,iV c.it.unit.act,iV c.it.unit.item,iV c.it.unit.n,iV c.it.unit.kind,aj c.it.unit.label,aW<|c.it.unit.head.map aQ,aW<|c.it.unit.words.map aQ,aW<|c.it.unit.kids.map aV,aW<|c.it.old.map nW,aW<|c.it.new.map nW,aj c.it.label,aj c.it.for_,iV c.it.start.kind,iV c.it.start.day,aj c.it.start.event,iV c.it.act,iV c.it.item,iV c.it.day,aj c.it.event,aW<|c.it.by_.map NE]];let j:=ay [iV (au a.2.2 c.act).kind,iV (au a.2.2 c.act).day,aj (au a.2.2 c.act).event];let k:=List.map ak<|[0]++cD (am (au a.2.2 c.act) c ds);have l:=ft e.1 h;have:=al l;have m:=fJ (enc:=aU) e.1 h;have n:=ch (J:=fun b _=>BrkA a.2.2 ds b) (a:=b.2.2) h e.2;Kt 0 l<|Mx m<|Kp 5 (jr c.it.kind)<|Mb (ct c.it.kind) (fun _=>Ms (cD<|am (au a.2.2 c.act) c ds).isEmpty (fun k=>K1 4 (.look j) (hlk a.2.2 c.act)<|Kp 1 (gq (au a.2.2 c.act) c ds<|by(omega))<|M3 (.efx true q10<|av [aZ 3 false 0 q3,aZ 1 false 0 [ab],aZ 1 false 0 q13,AObj.map (bv aw a.2.2 0) a.2.2.length,aZ 28 false 0 i]) (re rt (tM a.2.2.length 5<|af (f:=aw) (fun _=>rfl) a.2.2 0) rt rt rt ti) (re (aY<|some<|aZ 28 false 0 i) (aY d) (aY<|some<|aZ 1 false 0 q13) (aY q12) (aY q14) ti) (Xa pq (au a.2.2 c.act) c ds a.2.2 k)<|Kl 0 46 (dq b.1)<|K1 0 (.frz 4 [1,4,7,26,27,28]) (vS (tM a.2.2.length 4<|af (f:=aw) (fun _=>rfl) a.2.2 0) rt rt rt ti)<|Mf<|f (.inl (b.1+1,g,())) (et (bW e.1 h) (by exact n.nil (by assumption) (by assumption):(BrkA a.2.2 ds g)))<|dt h) fun d=>K1 4 (.look j) (hlk a.2.2 c.act)<|Kp 1 (gq (au a.2.2 c.act) c ds<|by(omega))<|M3 (.efx false q10<|av [aZ 3 false 0 q3,aZ 1 false 0 [ab],aZ 1 false 0 [aE 5 0 0 k.length none],AObj.map (bv aw a.2.2 0) a.2.2.length,aZ 28 false 0 i,aZ 1 true 0 k]) (re rt (tM a.2.2.length 5<|af (f:=aw) (fun _=>rfl) a.2.2 0) rt rt rt ti) ti (Xy pq (au a.2.2 c.act) c ds a.2.2 d)<|Kl 0 46 (dq b.1)<|Mg 0<|M2 (.ren [0,1,2,3,5,4] [3,5] [1,4,7,26,27,28]) (tN a.2.2.length<|af (f:=aw) (fun _=>rfl) a.2.2 0) (tS 1 true 0<|aX Jx<|[0]++cD (am (au a.2.2 c.act) c ds))<|M1 (.frz 5 [1,4,7,26,27,28]) (re (tR 1 true 0 5<|aX Jx<|[0]++cD (am (au a.2.2 c.act) c ds)) (tM a.2.2.length 5<|af (f:=aw) (fun _=>rfl) a.2.2 0) rt rt rt ti)<|Mf<|f (.inr (b.1+1,g,(0,k.length,[0]++cD (am (au a.2.2 c.act) c ds)))) (et (bW e.1 h) (by exact n.new (Ij (e.1.trans h)) (by assumption) (by assumption) rfl:(BrkB a.2.2 ds g (0:Nat) (([(0:Int)]++cD (am (au a.2.2 c.act) c ds)).map ak).length ([(0:Int)]++cD (am (au a.2.2 c.act) c ds)))))<|dt h) fun _=>Kl 0 46 (dq b.1)<|K1 0 (.frz 4 [1,4,7,26,27,28]) (vS (tM a.2.2.length 4<|af (f:=aw) (fun _=>rfl) a.2.2 0) rt rt rt ti)<|Mf<|f (.inl (b.1+1,g,())) (et (bW e.1 h) (by exact n.no (by assumption):(BrkA a.2.2 ds g)))<|dt h) fun b e f=>let g:=[aE 4 b.2.2.1 0 b.2.2.2.1 none];let h:=List.map ak b.2.2.2.2;Mc b.2.1 (fun d=>have f:=fK e.1 d;have d:=gP (J:=fun b c=>BrkB a.2.2 ds b c.1 c.2.1 c.2.2) (a:=b.2.2) d e.2;Kh 0 f<|M2 (.ren [0,1,2,4,3] [4,3] []) (tS 1 true b.2.2.1<|aX Jx b.2.2.2.2) (tN a.2.2.length<|af (f:=aw) (fun _=>rfl) a.2.2 0)<|M1 (.frz 4 []) (vS (tR 1 true b.2.2.1 4<|aX Jx b.2.2.2.2) rt rt rt ti)<|Mf<|et (aY q10) (by(have q:=d.done;rw[show lV L []=a.2.2 from c,q.1,q.2.1,q.2.2];try rfl):(av [AObj.row 3 false 0 [AV.agg [iV pq.a,iV pq.i,iV pq.n]],AObj.row 1 false 0 [AV.nils],AObj.row 1 false 0 [AV.slice 3 b.2.2.1 0 b.2.2.2.1 none],AObj.row 1 true b.2.2.1 (b.2.2.2.2.map ak)])=(av [iw pq,dU,jl 3 (pO (lV L []) ds ds-1) ([0]++jp (lV L []) ds ds).length,n5 (pO (lV L []) ds ds-1) ([0]++jp (lV L []) ds ds)]))) fun c i j=>let k:=[ay [iV c.act,iV c.item,iV c.day,iV c.it.kind,aW<|c.it.at_.map az,aW<|c.it.to.map az,iV c.it.where_,iV c.it.nth_,iV c.it.unit.act,iV c.it.unit.item,iV c.it.unit.n,iV c.it.unit.kind,aj c.it.unit.label,aW<|c.it.unit.head.map aQ,aW<|c.it.unit.words.map aQ,aW<|c.it.unit.kids.map aV,aW<|c.it.old.map nW,aW<|c.it.new.map nW,aj c.it.label,aj c.it.for_,iV c.it.start.kind,iV c.it.start.day,aj c.it.start.event,iV c.it.act,iV c.it.item,iV c.it.day,aj c.it.event,aW<|c.it.by_.map NE]];let l:=ay [iV (au a.2.2 c.act).kind,iV (au a.2.2 c.act).day,aj (au a.2.2 c.act).event];let m:=List.map ak<|cD<|am (au a.2.2 c.act) c ds;have n:=ft e.1 j;have:=al n;have o:=fJ (enc:=aU) e.1 j;have p:=ch (J:=fun b c=>BrkB a.2.2 ds b c.1 c.2.1 c.2.2) (a:=b.2.2) j e.2;Kt 0 n<|Mx o<|Kp 5 (jr c.it.kind)<|Mb (ct c.it.kind) (fun _=>Ms (cD<|am (au a.2.2 c.act) c ds).isEmpty (fun m=>K1 4 (.look l) (hlk a.2.2 c.act)<|Kp 1 (gq (au a.2.2 c.act) c ds<|by(omega))<|M3 (.efx true q10<|av [aZ 3 false 0 q3,aZ 1 false 0 [ab],aZ 1 false 0 g,AObj.map (bv aw a.2.2 0) a.2.2.length,aZ 1 true b.2.2.1 h,aZ 28 false 0 k]) (D9 rt (tR 1 true b.2.2.1 6<|aX Jx b.2.2.2.2) (tM a.2.2.length 6<|af (f:=aw) (fun _=>rfl) a.2.2 0) rt rt rt ti) (D9 (aY<|some<|aZ 28 false 0 k) (aY<|some<|aZ 1 true b.2.2.1 h) (aY d) (aY<|some<|aZ 1 false 0 g) (aY q12) (aY q14) ti) (Xv pq (au a.2.2 c.act) c ds a.2.2 b.2.2.1 b.2.2.2.1 b.2.2.2.2 m)<|Kl 0 46 (dq b.1)<|K1 0 (.frz 5 [1,4,7,26,27,28]) (re (tR 1 true b.2.2.1 5<|aX Jx b.2.2.2.2) (tM a.2.2.length 5<|af (f:=aw) (fun _=>rfl) a.2.2 0) rt rt rt ti)<|Mf<|f (.inr (b.1+1,i,(b.2.2.1,b.2.2.2.1,b.2.2.2.2))) (et (bW e.1 j) (by exact p.nil (by assumption) (by assumption):(BrkB a.2.2 ds i b.2.2.1 b.2.2.2.1 b.2.2.2.2)))<|dt j) fun d=>K1 4 (.look l) (hlk a.2.2 c.act)<|Kp 1 (gq (au a.2.2 c.act) c ds<|by(omega))<|M3 (.efx false q10<|av [aZ 3 false 0 q3,aZ 1 false 0 [ab],aZ 1 false 0 [aE 4 (b.2.2.1+1) 0 (b.2.2.2.1+m.length) none],AObj.map (bv aw a.2.2 0) a.2.2.length,aZ 1 true (b.2.2.1+1)<|(b.2.2.2.2++cD (am (au a.2.2 c.act) c ds)).map ak,aZ 28 false 0 k]) (D9 rt (tR 1 true b.2.2.1 6<|aX Jx b.2.2.2.2) (tM a.2.2.length 6<|af (f:=aw) (fun _=>rfl) a.2.2 0) rt rt rt ti) ti (Xw pq (au a.2.2 c.act) c ds a.2.2 b.2.2.1 b.2.2.2.1 b.2.2.2.2 d (by exact p.len)<|by(have z:=p.small;have z2:=p.len;have z3:=Ij (e.1.trans j);simp only[lC]at z z3;omega))<|Kl 0 46 (dq b.1)<|K1 0 (.frz 5 [1,4,7,26,27,28]) (re (tR 1 true (b.2.2.1+1) 5<|aX Jx<|b.2.2.2.2++cD (am (au a.2.2 c.act) c ds)) (tM a.2.2.length 5<|af (f:=aw) (fun _=>rfl) a.2.2 0) rt rt rt ti)<|Mf<|f (.inr (b.1+1,i,(b.2.2.1+1,b.2.2.2.1+m.length,b.2.2.2.2++cD (am (au a.2.2 c.act) c ds)))) (et (bW e.1 j) (by exact p.new (by assumption) (by assumption) rfl:(BrkB a.2.2 ds i (b.2.2.1+1) (b.2.2.2.1+m.length) (b.2.2.2.2++cD (am (au a.2.2 c.act) c ds)))))<|dt j) fun _=>Kl 0 46 (dq b.1)<|K1 0 (.frz 5 [1,4,7,26,27,28]) (re (tR 1 true b.2.2.1 5<|aX Jx b.2.2.2.2) (tM a.2.2.length 5<|af (f:=aw) (fun _=>rfl) a.2.2 0) rt rt rt ti)<|Mf<|f (.inr (b.1+1,i,(b.2.2.1,b.2.2.2.1,b.2.2.2.2))) (et (bW e.1 j) (by exact p.no (by assumption):(BrkB a.2.2 ds i b.2.2.1 b.2.2.2.1 b.2.2.2.2)))<|dt j) fun d e f g _ h i=>Kt 0 g<|Mx h<|K1 7 (.upd (bv aw (iW d.number d.start a.2.2) 0) (iW d.number d.start a.2.2).length) (hup a.2.2 d)<|Kl 0 23 (dq a.1)<|K1 0 (.frz 4 [0,1,4,12,13,14]) (vS (tM (iW d.number d.start a.2.2).length 4<|af (f:=aw) (fun _=>rfl) (iW d.number d.start a.2.2) 0) rt rt rt ti)<|Mf<|c (a.1+1,e,iW d.number d.start a.2.2) (et (bW b.1 f) (by exact i:(lV L []=lV e (iW d.number d.start a.2.2))))<|dt f
theorem Gz(pq:PId)(zs:List Int)(ep n:Nat)(hn:n=zs.length)(hz:0<zs.length)(hb:zs.length<2^40):
    kD 45 [.slice 3 ep 0 n none] (av [iw pq,dU,jl 3 ep n,n5 ep zs]) (.tuple []) (av [iw pq,dU,jl 3 ep n,n5 ep (c8 zs)]):=by
  subst hn
  exact(r9 (Go.Proofs.Tryz.lsort.f5.enters rfl) (fun blk off cap zs w hH hb hs=>Go.Proofs.AnyM.slices_Sort_int Go.Proofs.Tryz.lsort blk off cap zs w hH hb hs) zs (h:=av [iw pq,dU,jl 3 ep zs.length,n5 ep zs]) (id:=3) (op:=true) rfl hz (by omega)).mono fun v h ⟨h3,h4⟩=>⟨h3,h4.trans rfl⟩
theorem zP(pq:PId)(zs:List Int)(ep n:Nat)(hn:n=zs.length)(hz:0<zs.length)(hb:zs.length<2^40):
    kD 46 [.slice 3 ep 0 n none] (av [iw pq,dU,jl 3 ep n,n5 ep zs]) (.slice 3 ep 0 (bZ zs).length none) (av [iw pq,dU,jl 3 ep n,n5 ep (bZ zs++List.replicate (zs.length-(bZ zs).length) 0)]):=by
  subst hn
  exact(oB (Go.Proofs.Tryz.lcompact.f43.enters rfl) (fun blk off cap zs w hH hb hs=>Go.Proofs.AnyG.slices_Compact_int Go.Proofs.Tryz.lcompact blk off cap zs w hH hb hs) zs (h:=av [iw pq,dU,jl 3 ep zs.length,n5 ep zs]) (id:=3) (op:=true) rfl hz (by omega)).mono fun v h ⟨h3,h4⟩=>⟨h3,h4.trans rfl⟩
noncomputable def Vx:Option (AV×AHeap)→Bool
  |some (.tuple [],_)=>true
  |_=>false
noncomputable def Vz:Option (AV×AHeap)→Bool
  |some (.ps [.int .i64 n] true,_)=>ah n 0
  |_=>false
theorem UI{f:FuncId}{a:List AV}(k:Nat)(ht:aq a=0)(h:Vx (fO C k f a AHeap.none)=true):kP f a (.tuple []):=by
  cases hx:fO C k f a AHeap.none with
  |none=>rw[hx]at h;cases h
  | some r=>
    obtain⟨v,h1⟩:=r
    rw[hx]at h
    have e:v=.tuple []:=by
      unfold Vx at h
      split at h
      · rename_i q;cases q;rfl
      · cases h
    subst e
    exact lJ ie ht rfl ((aH.of (ev k) hx).mono fun v1 _ e=>e.1)
theorem UH{f:FuncId}{a:List AV}(k:Nat)(ht:aq a=0)(h:Vz (fO C k f a AHeap.none)=true):aR Tryz.prog G f a (.ps [.int .i64 0] true):=by
  cases hx:fO C k f a AHeap.none with
  |none=>rw[hx]at h;cases h
  | some r=>
    obtain⟨v,h1⟩:=r
    rw[hx]at h
    have e:v=.ps [.int .i64 0] true:=by
      unfold Vz at h
      split at h
      · rename_i q;cases q;rw[kh h]
      · cases h
    subst e
    exact lJ ie ht rfl ((aH.of (ev k) hx).mono fun v1 _ e=>e.1)
theorem PJ:kP 45 [.ps [iV 0] true] (.tuple []):=UI 60 rfl (by kernel_rfl)
theorem Hw:aR Tryz.prog G 46 [.ps [.int .i64 0] true] (.ps [.int .i64 0] true):=UH 60 rfl (by kernel_rfl)
theorem ZS(pq:PId)(gs:List PGaz)(hc:kD 42 [.ls (gs.map ap),.func (.func 43) [] [.ptr 2 0 0 0]] (av [iw pq,dU,nC]) (.tuple []) (av [iw pq,dU,nC])):kD 26 [.ls (gs.map ap)] (av [iw pq,dU]) (.ps [iV 0] true) (av [iw pq,dU]):=by
  exact eg Tryz.func26 fun a=>Ke 5 hc<|Kp 0 PJ<|Kp 0 Hw<|K1 0 (.frz 2 [2]) (b6 rt rt ti)<|Mf a
theorem MY(X:List Int):(c8 X).length=X.length:=(List.mergeSort_perm X _).length_eq
theorem ZR(pq:PId)(gs:List PGaz)(X:List Int)(k:Nat)(hz:0<X.length)(hb:X.length<2^40)(hc:kD 42 [.ls (gs.map ap),.func (.func 43) [] [.ptr 2 0 0 0]] (av [iw pq,dU,nC]) (.tuple []) (av [iw pq,dU,jl 3 k X.length,n5 k X])):kD 26 [.ls (gs.map ap)] (av [iw pq,dU]) (.slice 3 k 0 (bZ (c8 X)).length none) (av [iw pq,dU,jl 3 k X.length,n5 k (bZ (c8 X)++List.replicate ((c8 X).length -(bZ (c8 X)).length) 0)]):=by
  have hs:=MY X
  exact eg Tryz.func26 fun a=>Ke 5 hc<|Ke 0 (Gz pq X k X.length (by(omega)) hz hb)<|Ke 0 (zP pq (c8 X) k X.length (by(omega)) (by(omega))<|by(omega))<|Kf 0 a
noncomputable def cw(gs:List PGaz):List Int:=bZ (c8 ([0]++jp (lV (fg gs) []) (gj gs) (gj gs)))
theorem Hn:∀{l:List PSpan},(∀s,s∈l→0≤s.from_∧s.from_<s.to∧s.to≤1048577)→∀z,z∈cD l→0≤z∧z<1048577
  | s::r,h,z,hz=>by
    have hs:=h s (e9 ..)
    rw[cD]at hz
    rcases je.1 hz with q|q
    · unfold Ho at q
      cases e:aC s.to 1048577<;>rw[e]at q
      · simp at q;omega
      · have:=al e;simp at q;omega
    · exact Hn (fun x hx=>h x (fk _ hx)) z q
theorem LA(m:List (Int×PStart))(ds:List PDeed):∀(r:List PDeed)(z:Int),z∈jp m ds r→0≤z∧z<1048577
  | d::r,z,hz=>by
    rw[jp]at hz
    rcases je.1 hz with q|q
    · unfold Br at q
      cases e:ct d.it.kind<;>rw[e]at q
      · cases q
      · exact Hn (nE _ _ _).ok z q
    · exact LA m ds r z q
theorem Lu(gs:List PGaz):(cw gs).Pairwise (fun a b=>a<b)∧(∀z,z∈cw gs→0≤z∧z<1048577)∧∃r,cw gs=0::r:=by
  obtain⟨h1,h2⟩:=At (th ([0]++jp (lV (fg gs) []) (gj gs) (gj gs)))
  have h3:∀z,z∈cw gs→0≤z∧z<1048577:=fun z hz=>by
    rcases je.1 ((iF _).mem_iff.1 ((h2 z).1 hz))with q|q
    · rw[mr]at q;omega
    · exact LA _ _ _ z q
  have h0:(0:Int)∈cw gs:=(h2 0).2 ((iF _).mem_iff.2 (EG _ (mr.2 rfl)))
  have h1:(cw gs).Pairwise (fun a b=>a<b):=h1
  refine⟨h1,h3,?_⟩
  cases e:cw gs with
  |nil=>rw[e]at h0;cases h0
  | cons a r=>
    rw[e]at h0 h3 h1
    rcases fE.1 h0 with q|q
    · exact⟨r,by rw[←q]⟩
    · have:=(jd.1 h1).1 0 q
      have:=(h3 a (e9 ..)).1
      omega
/-- What the amendments' days begin and end. -/
noncomputable def RR(gs:List PGaz):List Int:=jp (lV (fg gs) []) (gj gs) (gj gs)
theorem bpA{gs:List PGaz}(h:OkG gs)(pq:PId)(hb:By (RR gs).isEmpty true):kD 26 [.ls (gs.map ap)] (av [iw pq,dU]) (.ps [iV 0] true) (av [iw pq,dU]):=by
  have hl:=h.lens
  exact ZS pq gs (NR pq gs _ _ (by omega) (by omega) h.all.1 h.all.2 (yb.1 hb))
theorem uP{gs:List PGaz}(hb:(RR gs).isEmpty=true):cw gs=[0]:=by
  have e:RR gs=[]:=yb.1 hb
  unfold cw
  rw[show jp (lV (fg gs) []) (gj gs) (gj gs)=[]from e,show c8 ([0]++[])=[0]from List.mergeSort_singleton 0];rfl
noncomputable def Zw(gs:List PGaz):List Int:=[0]++RR gs
noncomputable def AN(gs:List PGaz):Nat:=pO (lV (fg gs) []) (gj gs) (gj gs)-1
theorem UL(gs:List PGaz)(h:(gj gs).length<2000):(RR gs).length≤2^22*2000:=by
  have hl:∀(r:List PDeed),(jp (lV (fg gs) []) (gj gs) r).length≤2^22*r.length:=by
    intro r
    induction r with
    |nil=>exact ao _
    | cons d r ih=>
      have h1:(Br (lV (fg gs) []) (gj gs) d).length≤2^22:=by
        unfold Br
        cases ct d.it.kind
        · exact bN _
        · exact qM _ _ _
      simp only[jp,lA,lC];omega
  have:=hl (gj gs)
  unfold RR;omega
noncomputable def lz(gs:List PGaz):List Int:=cw gs++List.replicate ((c8 (Zw gs)).length -(cw gs).length) 0
theorem RP(gs:List PGaz):(cw gs).length≤(lz gs).length∧(lz gs).take (cw gs).length=cw gs:=by
  unfold lz
  exact⟨by rw[lA];omega,List.take_left' rfl⟩
theorem bpB{gs:List PGaz}(h:OkG gs)(pq:PId)(hb:By (RR gs).isEmpty false):kD 26 [.ls (gs.map ap)] (av [iw pq,dU]) (.slice 3 (AN gs) 0 (cw gs).length none) (av [iw pq,dU,jl 3 (AN gs) (Zw gs).length,n5 (AN gs) (lz gs)]):=by
  have hl:=h.lens
  have hE:RR gs≠[]:=fun e=>by rw[e]at hb;cases hb
  have:=UL gs (by omega)
  exact ZR pq gs _ _ (by simp) (by show([0]++RR gs).length<2^40;rw[lA];simp only[lC,lN];omega) (NP pq gs _ _ (by omega) (by omega) h.all.1 h.all.2 hE)
theorem Fl:∀{l:List Int}{lo hi:Int},l.Pairwise (fun a b=>a<b)→(∀z,z∈l→lo≤z∧z<hi)→lo≤hi→(Int.ofNat l.length)≤hi-lo
  |[],lo,hi,_,_,h=>by simp only[lN,oN];omega
  | a::r,lo,hi,hp,hb,h=>by
    obtain⟨h1,h2⟩:=jd.1 hp
    obtain⟨q1,q2⟩:=hb a (e9 ..)
    have:=Fl (lo:=a+1) (hi:=hi) h2 (fun z hz=>⟨by have:=h1 z hz;omega,(hb z (fk _ hz)).2⟩) (by omega)
    simp only[lC,oN]at *;omega
theorem AM(gs:List PGaz):(cw gs).length≤1048577:=by
  obtain⟨h1,h2,_⟩:=Lu gs
  have:=Fl h1 h2 (by omega)
  simp only[oN]at this;omega
/-- A unit without kids, as the program leaves it. -/
noncomputable abbrev SD(u:TUnit):AV:=.agg [iV u.act,iV u.item,iV u.n,iV u.kind,.str u.label,.ls (u.head.map aQ),.ls (u.words.map aQ),.nils]
noncomputable def bI(v:PVer):AV:=.agg [iV v.from_,iV v.to,iV v.par.a,iV v.par.i,iV v.par.n,iV v.at_,iV v.unit.act,iV v.unit.item,iV v.unit.n,iV v.unit.kind,.str v.unit.label,.ls (v.unit.head.map aQ),.ls (v.unit.words.map aQ),.nils]
theorem iN(v:PVer):(bI v).top=0:=rfl
noncomputable abbrev lP(ep:Nat)(l:List PVer):AObj:=.row 14 true ep (l.map bI)
theorem Dj{u:TUnit}(h:u.kids=[]):Le (eU u) (SD u):=by
  have e:eU u=.agg [iV u.act,iV u.item,iV u.n,iV u.kind,.str u.label,.ls (u.head.map aQ),.ls (u.words.map aQ),.ls []]:=by
    cases u;simp only[TUnit.kids]at h;subst h;rfl
  rw[e]
  exact bQ (.cons (Le.refl _) (.cons (Le.refl _) (.cons (Le.refl _) (.cons (Le.refl _) (.cons (Le.refl _) (.cons (Le.refl _) (.cons (Le.refl _) (.cons Le.nils .nil)))))))) rfl
theorem Zb{a b:TUnit}(ha:mb a)(hb:mb b)(ka:a.kids=[])(kb:b.kids=[]):kP 32 [SD a,SD b] (.bool (gg a b)):=
  (OE a ha b hb).onArgs (.cons (Dj ka) (.cons (Dj kb) .nil))
theorem Sv(a b:PVer)(he:kP 32 [SD a.unit,SD b.unit] (.bool (gg a.unit b.unit))):kP 19 [bI a,bI b] (.bool (pi gg a b)):=by
  have rr0 b' (h:(pi gg a b)=b':=by(simp only[pi,bj,bx,aS,ax,bS, *];first|done|rfl)):=h;exact bM Tryz.func19<|Kv 6 (kB ((Tryz.prog).underlying 24) a.par.a a.par.i a.par.n b.par.a b.par.i b.par.n<|av [aZ 14 false 0 [ay [iV a.from_,iV a.to,iV a.par.a,iV a.par.i,iV a.par.n,iV a.at_,iV a.unit.act,iV a.unit.item,iV a.unit.n,iV a.unit.kind,aj a.unit.label,aW<|a.unit.head.map aQ,aW<|a.unit.words.map aQ,ab]],aZ 14 false 0 [ay [iV b.from_,iV b.to,iV b.par.a,iV b.par.i,iV b.par.n,iV b.at_,iV b.unit.act,iV b.unit.item,iV b.unit.n,iV b.unit.kind,aj b.unit.label,aW<|b.unit.head.map aQ,aW<|b.unit.words.map aQ,ab]]])<|Kb 0 (ah a.par.a b.par.a&&(ah a.par.i b.par.i&&ah a.par.n b.par.n)) (fun c=>Kt 0 c<|Kt 0 c<|Kt 0 c<|Kt 0 c<|Ku 0 c<|Kj 0 a.at_ b.at_ (fun c _=>Kt 0 c<|Kt 0 c<|Kt 0 c<|Kt 0 c<|Mp he<|MV c<|Kf 0<|cb<|rr0<|gg a.unit b.unit) fun c _=>Mh c<|Mh c<|Mh c<|Mh c<|My c<|Ky 0<|rr0 false) fun c=>Mh c<|Mh c<|Mh c<|Mh c<|My c<|Ky 2<|rr0 false
/-- What the closure of Versions does, by what it finds. -/
theorem VG(q:PId)(s:PSpan)(u x:TUnit)(hf:kP 17 [eU u,aK q] (.tuple [eU x,.bool false])):
    kD 16 [aJ s,eU u,.ptr 0 0 0 0,.ptr 1 0 0 0] (av [iw q,dU]) (.tuple []) (av [iw q,dU]):=by
  exact eg Tryz.func16 fun a=>Kp 3 hf<|K1 8 (.frz 2 []) (b6 rt rt ti)<|Mf a
theorem SA(q:PId)(s:PSpan)(u x:TUnit)(ep n:Nat)(out:List PVer)(hf:kP 17 [eU u,aK q] (.tuple [eU x,.bool false])):
    kD 16 [aJ s,eU u,.ptr 0 0 0 0,.ptr 1 0 0 0] (av [iw q,gH 2 ep n,lP ep out]) (.tuple []) (av [iw q,gH 2 ep n,lP ep out]):=by
  exact eg Tryz.func16 fun a=>Kp 3 hf<|K1 8 (.frz 3 []) (jc (tR 14 true ep 3<|aX iN out) rt rt ti)<|Mf a
theorem L2(q:PId)(s:PSpan)(u x:TUnit)(par:PId)(i:Int)(ok:Bool)(hf:kP 17 [eU u,aK q] (.tuple [eU x,.bool true]))(hp:kP 18 [eU u,aK q] (.tuple [aK par,iV i,.bool ok])):
    kD 16 [aJ s,eU u,.ptr 0 0 0 0,.ptr 1 0 0 0] (av [iw q,dU]) (.tuple []) (av [iw q,gH 2 0 1,lP 0 [⟨s.from_,s.to,par,i,fu x []⟩]]):=by
  exact eg Tryz.func16 fun a=>Kp 3 hf<|Kp 12 hp<|Mg 29<|M0 (.ren [0,1,7,2,3,4,5,6] [] [])<|M1 (.frz 3 []) (jc rt rt rt ti)<|Mf a
theorem L1(q:PId)(s:PSpan)(u x:TUnit)(par:PId)(i:Int)(ok:Bool)(ep n:Nat)(out:List PVer)(hn:n=out.length)(hn0:0<n)(hz:aC 0 (Int.ofNat n)=true)(hn2:n<2^30)(hf:kP 17 [eU u,aK q] (.tuple [eU x,.bool true]))(hp:kP 18 [eU u,aK q] (.tuple [aK par,iV i,.bool ok]))
    (hm:ah (gD out (n-1)).to s.from_=false):
    kD 16 [aJ s,eU u,.ptr 0 0 0 0,.ptr 1 0 0 0] (av [iw q,gH 2 ep n,lP ep out]) (.tuple []) (av [iw q,gH 2 (ep+1) (n+1),lP (ep+1) (out++[⟨s.from_,s.to,par,i,fu x []⟩])]):=by
  exact JF Tryz.func16<|Kp 3 hf<|Kp 12 hp<|Kt 20 hz<|Kt 0 hz<|Kt 0 hz<|Ma (sk n)<|Mt hz<|M1 .rix (et (aY ep) (oA:n-1<n))<|Mt hz<|Kt 0 hz<|Kt 0 hz<|Mr (et (aY ep)<|aI bI (oA:n-1<(out).length))<|Mt hz<|Kt 0 hz<|Kt 0 hz<|Ku 0 hz<|Kh 0 hm<|Mh hm<|Mh hm<|Mh hm<|Mh hm<|Mh hm<|Mh hm<|My hm<|K1 3 .app (b6 (aY ep) (by(rw[lM];exact hn):n=(out.map bI).length) (by(refine cj (m:=2^31) ?_ ?_ ?_<;>first|omega|decide):small (n+1) 168=true))<|M1 (.obj 2<|aZ 14 true (ep+1)<|(out++[PVer.mk s.from_ s.to par i x]).map bI) (congrArg (aZ 14 true<|ep+1)<|co (f:=bI) (l:=out) (ws:=[PVer.mk s.from_ s.to par i x]))<|K1 0 (.frz 3 []) (jc (tR 14 true (ep+1) 3<|aX iN<|out++[PVer.mk s.from_ s.to par i x]) rt rt ti)<|Mf<|et (aY<|b9 []) (by(simp only[lP,pt];rfl):(av [AObj.row 3 false 0 [AV.agg [iV q.a,iV q.i,iV q.n]],AObj.row 1 false 0 [AV.slice 2 (ep+1) 0 (n+1) none],AObj.row 14 true (ep+1) ((out++[PVer.mk s.from_ s.to par i x]).map bI)])=(av [iw q,gH 2 (ep+1) (n+1),lP (ep+1) (out++[PVer.mk s.from_ s.to par i (fu x [])])]))
theorem L0(q:PId)(s:PSpan)(u x:TUnit)(par:PId)(i:Int)(ok:Bool)(ep n:Nat)(out:List PVer)(hn:n=out.length)(hn0:0<n)(hz:aC 0 (Int.ofNat n)=true)(hn2:n<2^30)(hf:kP 17 [eU u,aK q] (.tuple [eU x,.bool true]))(hp:kP 18 [eU u,aK q] (.tuple [aK par,iV i,.bool ok]))
    (hm:ah (gD out (n-1)).to s.from_=true)(ha:kP 19 [bI (gD out (n-1)),bI ⟨s.from_,s.to,par,i,fu x []⟩] (.bool false)):
    kD 16 [aJ s,eU u,.ptr 0 0 0 0,.ptr 1 0 0 0] (av [iw q,gH 2 ep n,lP ep out]) (.tuple []) (av [iw q,gH 2 (ep+1) (n+1),lP (ep+1) (out++[⟨s.from_,s.to,par,i,fu x []⟩])]):=by
  exact JF Tryz.func16<|Kp 3 hf<|Kp 12 hp<|Kt 20 hz<|Kt 0 hz<|Kt 0 hz<|Ma (sk n)<|Mt hz<|M1 .rix (et (aY ep) (oA:n-1<n))<|Mt hz<|Kt 0 hz<|Kt 0 hz<|Mr (et (aY ep)<|aI bI (oA:n-1<(out).length))<|Mt hz<|Kt 0 hz<|Kt 0 hz<|Ku 0 hz<|Kt 0 hm<|Kt 0 hm<|Kt 0 hm<|Ma (sk n)<|Mt hm<|M1 .rix (et (aY ep) (oA:n-1<n))<|Mt hm<|Mr (et (aY ep)<|aI bI (oA:n-1<(out).length))<|Mt hm<|Kt 0 hm<|Mp ha<|MV hm<|K1 3 .app (b6 (aY ep) (by(rw[lM];exact hn):n=(out.map bI).length) (by(refine cj (m:=2^31) ?_ ?_ ?_<;>first|omega|decide):small (n+1) 168=true))<|M1 (.obj 2<|aZ 14 true (ep+1)<|(out++[PVer.mk s.from_ s.to par i x]).map bI) (congrArg (aZ 14 true<|ep+1)<|co (f:=bI) (l:=out) (ws:=[PVer.mk s.from_ s.to par i x]))<|K1 0 (.frz 3 []) (jc (tR 14 true (ep+1) 3<|aX iN<|out++[PVer.mk s.from_ s.to par i x]) rt rt ti)<|Mf<|et (aY<|b9 []) (by(simp only[lP,pt];rfl):(av [AObj.row 3 false 0 [AV.agg [iV q.a,iV q.i,iV q.n]],AObj.row 1 false 0 [AV.slice 2 (ep+1) 0 (n+1) none],AObj.row 14 true (ep+1) ((out++[PVer.mk s.from_ s.to par i x]).map bI)])=(av [iw q,gH 2 (ep+1) (n+1),lP (ep+1) (out++[PVer.mk s.from_ s.to par i (fu x [])])]))
theorem Ou(q:PId)(s:PSpan)(u x:TUnit)(par:PId)(i:Int)(ok:Bool)(ep n:Nat)(out:List PVer)(hn:n=out.length)(hn0:0<n)(hz:aC 0 (Int.ofNat n)=true)(hn2:n<2^30)(hf:kP 17 [eU u,aK q] (.tuple [eU x,.bool true]))(hp:kP 18 [eU u,aK q] (.tuple [aK par,iV i,.bool ok]))
    (hm:ah (gD out (n-1)).to s.from_=true)(ha:kP 19 [bI (gD out (n-1)),bI ⟨s.from_,s.to,par,i,fu x []⟩] (.bool true)):
    kD 16 [aJ s,eU u,.ptr 0 0 0 0,.ptr 1 0 0 0] (av [iw q,gH 2 ep n,lP ep out]) (.tuple []) (av [iw q,gH 2 ep n,lP ep (out.set (n-1) (FQ (gD out (n-1)) s.to))]):=by
  exact eg Tryz.func16 fun a=>Kp 3 hf<|Kp 12 hp<|Kt 20 hz<|Kt 0 hz<|Kt 0 hz<|Ma (sk n)<|Mt hz<|M1 .rix (et (aY ep) (oA:n-1<n))<|Mt hz<|Kt 0 hz<|Kt 0 hz<|Mr (et (aY ep)<|aI bI (oA:n-1<(out).length))<|Mt hz<|Kt 0 hz<|Kt 0 hz<|Ku 0 hz<|Kt 0 hm<|Kt 0 hm<|Kt 0 hm<|Ma (sk n)<|Mt hm<|M1 .rix (et (aY ep) (oA:n-1<n))<|Mt hm<|Mr (et (aY ep)<|aI bI (oA:n-1<(out).length))<|Mt hm<|Kt 0 hm<|Mp ha<|MV hm<|Kl 3 61 (sk n)<|K1 1 .rix (et (aY ep) (oA:n-1<n))<|K1 1 (.rst (bI<|gD out<|n-1)<|(out.set (n-1)<|PVer.mk (gD out<|n-1).from_ s.to (gD out<|n-1).par (gD out<|n-1).at_ (gD out<|n-1).unit).map bI) (b6 (aY ep) (aI bI (oA:n-1<(out).length))<|jC (f:=bI) (l:=out) (i:=n-1) (w:=PVer.mk (gD out<|n-1).from_ s.to (gD out<|n-1).par (gD out<|n-1).at_ (gD out<|n-1).unit))<|M1 (.frz 3 []) (jc (tR 14 true ep 3<|aX iN<|out.set (n-1)<|PVer.mk (gD out<|n-1).from_ s.to (gD out<|n-1).par (gD out<|n-1).at_ (gD out<|n-1).unit) rt rt ti)<|Mf a
/-- Units that may be compared, without kids. -/
def vK(l:List PVer):Prop:=∀v,v∈l→mb v.unit∧v.unit.kids=[]
theorem KI{u:TUnit}(hu:OkB u){pq:PId}{s:PSpan}(h:bB pq u=true):mb (ny pq s u).unit∧(ny pq s u).unit.kids =[]:=by
  refine⟨?_,rfl⟩
  have z:=hu.w _ (su h).1
  exact ll.2 ⟨show(dA pq u).head.length<2^60 by omega,show(dA pq u).words.length<2^60 by omega,Nat.pow_pos (by decide),fun k hk=>by cases hk⟩
theorem OC{l:List PVer}{v:PVer}(h:vK l)(hv:mb v.unit∧v.unit.kids=[]):vK (l++[v]):=fun x hx=>by
  rcases je.1 hx with q|q
  · exact h x q
  · rw[mr.1 q];exact hv
theorem OB{l:List PVer}{i:Nat}{t:Int}(h:vK l)(hi:i<l.length):vK (l.set i (FQ (gD l i) t)):=fun x hx=>by
  rcases List.mem_or_eq_of_mem_set hx with q|q
  · exact h x q
  · rw[q];have z:=h (gD l i) (gx hi);exact z
theorem YL(pq:PId)(a c:Int)(u:TUnit)(hu:OkB u)(hb:By (bB pq u) false):
    kD 16 [.agg [iV a,iV c],eU u,.ptr 0 0 0 0,.ptr 1 0 0 0] (av [iw pq,dU]) (.tuple []) (av [iw pq,dU]):=
  VG pq ⟨a,c⟩ u _ (by have z:=m0 hu pq;rwa[hb]at z)
theorem YI(pq:PId)(a c:Int)(u:TUnit)(hu:OkB u)(hb:bB pq u=false):
    kD 16 [.agg [iV a,iV c],eU u,.ptr 0 0 0 0,.ptr 1 0 0 0] (av [iw pq,dU]) (.tuple []) (av [iw pq,dU]):=YL pq a c u hu hb
theorem ZP(pq:PId)(a c:Int)(u:TUnit)(hu:OkB u)(hb:By (bB pq u) true):
    kD 16 [.agg [iV a,iV c],eU u,.ptr 0 0 0 0,.ptr 1 0 0 0] (av [iw pq,dU]) (.tuple []) (av [iw pq,gH 2 0 1,lP 0 [ny pq ⟨a,c⟩ u]]):=
  L2 pq ⟨a,c⟩ u _ _ _ _ (by have z:=m0 hu pq;rwa[hb]at z) (gp hu pq)
theorem ZO(pq:PId)(a c:Int)(u:TUnit)(ep n:Nat)(out:List PVer)(hu:OkB u)(hb:By (bB pq u) false):
    kD 16 [.agg [iV a,iV c],eU u,.ptr 0 0 0 0,.ptr 1 0 0 0] (av [iw pq,gH 2 ep n,lP ep out]) (.tuple []) (av [iw pq,gH 2 ep n,lP ep out]):=
  SA pq ⟨a,c⟩ u _ ep n out (by have z:=m0 hu pq;rwa[hb]at z)
theorem alk{u:TUnit}{out:List PVer}(hf:vK out)(hn0:0<out.length){pq:PId}{s:PSpan}(hu:OkB u)(hb:bB pq u=true):kP 19 [bI (gD out (out.length-1)),bI (ny pq s u)] (.bool (pi gg (gD out (out.length-1)) (ny pq s u))):=by
  obtain⟨a1,a2⟩:=hf _ (gx (show out.length-1<out.length by omega))
  obtain⟨b1,b2⟩:=KI (s:=s) hu hb
  exact Sv _ _ (Zb a1 b1 a2 b2)
theorem ZN(pq:PId)(a c:Int)(u:TUnit)(ep n:Nat)(out:List PVer)(hu:OkB u)(hb:By (bB pq u) true)(hn:n=out.length)(hn0:0<n)(hn2:n<2^30)(hf:vK out)(hm:By (ql gg (gD out (out.length-1)) (ny pq ⟨a,c⟩ u)) false):
    kD 16 [.agg [iV a,iV c],eU u,.ptr 0 0 0 0,.ptr 1 0 0 0] (av [iw pq,gH 2 ep n,lP ep out]) (.tuple []) (av [iw pq,gH 2 (ep+1) (n+1),lP (ep+1) (out++[ny pq ⟨a,c⟩ u])]):=by
  have hfd:kP 17 [eU u,aK pq] (.tuple [eU (dA pq u),.bool true]):=by have z:=m0 hu pq;rwa[hb]at z
  have ha:=alk (s:=⟨a,c⟩) hf (by omega) hu hb
  have hz:aC 0 (Int.ofNat n)=true:=kj (by simp only[oN];omega)
  subst hn
  cases h1:ah (gD out (out.length-1)).to a with
  |false=>exact L1 pq ⟨a,c⟩ u _ _ _ _ ep _ out rfl hn0 hz hn2 hfd (gp hu pq) h1
  | true=>
    have h2:pi gg (gD out (out.length-1)) (ny pq ⟨a,c⟩ u)=false:=by
      have z:(ah (gD out (out.length-1)).to a&&pi gg (gD out (out.length-1)) (ny pq ⟨a,c⟩ u))=false:=hm
      rwa[h1,yd]at z
    rw[h2]at ha
    exact L0 pq ⟨a,c⟩ u _ _ _ _ ep _ out rfl hn0 hz hn2 hfd (gp hu pq) h1 ha
theorem ZM(pq:PId)(a c:Int)(u:TUnit)(ep n:Nat)(out:List PVer)(hu:OkB u)(hb:By (bB pq u) true)(hn:n=out.length)(hn0:0<n)(hn2:n<2^30)(hf:vK out)(hm:By (ql gg (gD out (out.length-1)) (ny pq ⟨a,c⟩ u)) true):
    kD 16 [.agg [iV a,iV c],eU u,.ptr 0 0 0 0,.ptr 1 0 0 0] (av [iw pq,gH 2 ep n,lP ep out]) (.tuple []) (av [iw pq,gH 2 ep n,lP ep (out.set (out.length-1) (FQ (gD out (out.length-1)) c))]):=by
  have hfd:kP 17 [eU u,aK pq] (.tuple [eU (dA pq u),.bool true]):=by have z:=m0 hu pq;rwa[hb]at z
  have ha:=alk (s:=⟨a,c⟩) hf (by omega) hu hb
  have hz:aC 0 (Int.ofNat n)=true:=kj (by simp only[oN];omega)
  subst hn
  obtain⟨h1,h2⟩:=oZ.1 (show(ah (gD out (out.length-1)).to a&&pi gg (gD out (out.length-1)) (ny pq ⟨a,c⟩ u))=true from hm)
  rw[h2]at ha
  exact Ou pq ⟨a,c⟩ u _ _ _ _ ep _ out rfl hn0 hz hn2 hfd (gp hu pq) h1 ha
theorem J1{pq:PId}{out:List PVer}{s:PSpan}{u:TUnit}(h:out≠[]):dV gg pq out s u≠[]:=by
  unfold dV
  cases bB pq u with
  |false=>exact h
  | true=>
    rw[cond_true]
    cases aC 0 (.ofNat out.length)&&ql gg (gD out (out.length-1)) (ny pq s u)with
    | true=>
      intro e
      have:=congrArg List.length e
      rw[cond_true,lS]at this
      exact h (qJ this)
    |false=>intro e;cases out<;>cases e
theorem td{pq:PId}{out:List PVer}{s:PSpan}{u:TUnit}:(dV gg pq out s u).length≤out.length+1:=by
  unfold dV
  cases bB pq u with
  |false=>exact mA _
  | true=>
    rw[cond_true]
    cases aC 0 (.ofNat out.length)&&ql gg (gD out (out.length-1)) (ny pq s u)with
    |true=>rw[cond_true,lS];exact mA _
    |false=>rw[cond_false,lA];exact ao _
theorem yF{pq:PId}{out:List PVer}{s:PSpan}{u:TUnit}(h:vK out)(hu:OkB u):vK (dV gg pq out s u):=by
  unfold dV
  cases hb:bB pq u with
  |false=>exact h
  | true=>
    rw[cond_true]
    cases hm:aC 0 (.ofNat out.length)&&ql gg (gD out (out.length-1)) (ny pq s u)with
    | true=>
      have hl:=al (oZ.1 hm).1
      exact OB h (by simp only[oN]at hl;omega)
    |false=>exact OC h (KI hu hb)
theorem ZL(pq:PId)(a c:Int)(u:TUnit)(hu:OkB u)(hb:By (bB pq u) true):
    kD 16 [.agg [iV a,iV c],eU u,.ptr 0 0 0 0,.ptr 1 0 0 0] (av [iw pq,dU]) (.tuple []) (av [iw pq,gH 2 ((dV gg pq [] ⟨a,c⟩ u).length -1) (dV gg pq [] ⟨a,c⟩ u).length,lP ((dV gg pq [] ⟨a,c⟩ u).length -1) (dV gg pq [] ⟨a,c⟩ u)]):=by
  have e:dV gg pq [] ⟨a,c⟩ u=[ny pq ⟨a,c⟩ u]:=by unfold dV;rw[hb];rfl
  rw[e];exact ZP pq a c u hu hb
theorem YH(pq:PId)(a c:Int)(u:TUnit)(out:List PVer)(hu:OkB u)(hne:out≠[])(hn2:out.length<2^30)(hf:vK out):
    kD 16 [.agg [iV a,iV c],eU u,.ptr 0 0 0 0,.ptr 1 0 0 0] (av [iw pq,gH 2 (out.length-1) out.length,lP (out.length-1) out]) (.tuple []) (av [iw pq,gH 2 ((dV gg pq out ⟨a,c⟩ u).length -1) (dV gg pq out ⟨a,c⟩ u).length,lP ((dV gg pq out ⟨a,c⟩ u).length -1) (dV gg pq out ⟨a,c⟩ u)]):=by
  have hp:0<out.length:=pA.2 hne
  cases hb:bB pq u with
  | false=>
    have e:dV gg pq out ⟨a,c⟩ u=out:=by unfold dV;rw[hb];rfl
    rw[e];exact ZO pq a c u _ _ out hu hb
  | true=>
    have hz:aC 0 (.ofNat out.length)=true:=kj (by simp only[oN];omega)
    cases hm:ql gg (gD out (out.length-1)) (ny pq ⟨a,c⟩ u)with
    | false=>
      have e:dV gg pq out ⟨a,c⟩ u=out++[ny pq ⟨a,c⟩ u]:=by unfold dV;rw[hb,hm,tq];rfl
      have e2:(out++[ny pq ⟨a,c⟩ u]).length=out.length+1:=by rw[lA];rfl
      rw[e,e2,Nat.add_sub_cancel]
      have z:=ZN pq a c u (out.length-1) out.length out hu hb rfl hp hn2 hf hm
      rwa[Nat.sub_add_cancel hp]at z
    | true=>
      have e:dV gg pq out ⟨a,c⟩ u=out.set (out.length-1) (FQ (gD out (out.length-1)) c):=by unfold dV;rw[hb,hm,hz];rfl
      rw[e,lS]
      exact ZM pq a c u (out.length-1) out.length out hu hb rfl hp hn2 hf hm
/-- What the rounds of the stretches have done. -/
structure VerA(V:List PVer)(pq:PId)(b:Int→TUnit)(B E:List Int)(r:List Int):Prop where
  v:V=ym gg pq b (E.drop (B.length-r.length)) []
structure VerB(V:List PVer)(pq:PId)(b:Int→TUnit)(B E:List Int)(r:List Int)(out:List PVer):Prop where
  v:V=ym gg pq b (E.drop (B.length-r.length)) out
  ne:out≠[]
  len:out.length+r.length≤B.length
  fit:vK out
section
variable{V:List PVer}{pq:PId}{b:Int→TUnit}{B E r:List Int}{w F:Int}{j:Nat}{out:List PVer}
theorem R6(hd:B.drop j=w::r):j<B.length∧B.length-(w::r).length=j∧B.length-r.length=j+1:=by
  have:=congrArg List.length hd
  rw[tV,lC]at this
  rw[lC];omega
theorem xF(hE:E=B++[F])(hd:B.drop j=w::r):ym gg pq b (E.drop j) out=ym gg pq b (E.drop (j+1)) (dV gg pq out ⟨w,gD E (j+1)⟩ (b w)):=by
  obtain⟨h1,_,_⟩:=R6 hd
  have hl:E.length=B.length+1:=by rw[hE,lA];rfl
  have e1:E.drop j=w::E.drop (j+1):=by
    rw[pc (show j<E.length by omega)]
    congr 1
    rw[hE,Lj h1]
    have z:=pc h1
    rw[hd]at z
    exact(List.cons.inj z).1.symm
  have e2:=pc (show j+1<E.length by omega)
  rw[e1,e2];rfl
theorem VerA.no(h:VerA V pq b B E (w::r))(hE:E=B++[F])(hd:B.drop j=w::r)(hu:bB pq (b w)=false):VerA V pq b B E r:=by
  obtain⟨_,q2,q3⟩:=R6 hd
  refine⟨by rw[h.v,q2,q3,xF hE hd];unfold dV;rw[hu];rfl⟩
theorem VerA.new(h:VerA V pq b B E (w::r))(hE:E=B++[F])(hd:B.drop j=w::r)(hb:OkB (b w))(hu:bB pq (b w)=true):VerB V pq b B E r (dV gg pq [] ⟨w,gD E (j+1)⟩ (b w)):=by
  obtain⟨q1,q2,q3⟩:=R6 hd
  have:=td (pq:=pq) (out:=[]) (s:=⟨w,gD E (j+1)⟩) (u:=b w)
  refine⟨by rw[h.v,q2,q3,xF hE hd],by unfold dV;rw[hu];exact mJ _ _,by rw[lN]at this;omega,yF (fun v hv=>by cases hv) hb⟩
theorem VerB.step(h:VerB V pq b B E (w::r) out)(hE:E=B++[F])(hd:B.drop j=w::r)(hb:OkB (b w)):VerB V pq b B E r (dV gg pq out ⟨w,gD E (j+1)⟩ (b w)):=by
  obtain⟨_,q2,q3⟩:=R6 hd
  have q4:=h.len
  have:=td (pq:=pq) (out:=out) (s:=⟨w,gD E (j+1)⟩) (u:=b w)
  rw[lC]at q4
  exact⟨by rw[h.v,q2,q3,xF hE hd],J1 h.ne,by omega,yF h.fit hb⟩
theorem VerA.end_(h:VerA V pq b B E [])(hE:E=B++[F]):V=[]:=by
  have e:E.drop (B.length-([]:List Int).length)=[F]:=by rw[hE];simp
  rw[h.v,e];rfl
theorem VerB.end_(h:VerB V pq b B E [] out)(hE:E=B++[F]):V=out:=by
  have e:E.drop (B.length-([]:List Int).length)=[F]:=by rw[hE];simp
  rw[h.v,e];rfl
end
/-- The versions of a unit. -/
noncomputable def jf(gs:List PGaz)(pq:PId)(p:aT):List PVer:=ym gg pq (fun a=>dB a p gs) (cw gs++[1048577]) []
theorem RO{R B:List Int}(h:R.take B.length=B)(hl:B.length<R.length):(R.set B.length 1048577).take (B.length+1)=B++[1048577]:=by
  rw[xL (by rw[lS];exact hl),List.take_set_of_le (ao _),h,vP hl,if_pos rfl]
theorem ur{E B:List Int}(h:E=B++[1048577]):E.take (E.length-1)=B∧E=E.take (E.length-1)++[1048577]:=by
  have e:E.take (E.length-1)=B:=by rw[h,lA];simp
  exact⟨e,by rw[e];exact h⟩
theorem XD{gs:List PGaz}{pq:PId}{p:aT}{E:List Int}(h:E=cw gs++[1048577]):VerA (jf gs pq p) pq (fun a=>dB a p gs) (E.take (E.length-1)) E (E.take (E.length-1)):=⟨by rw[Nat.sub_self,h];rfl⟩
theorem JL{pq:PId}{b:Int→TUnit}:∀(l:List Int)(out:List PVer),out≠[]→ym gg pq b l out≠[]
  |[],_,h=>h
  |[_],_,h=>h
  |a::c::r,out,h=>JL (c::r) _ (J1 h)
theorem VerA.none{V:List PVer}{pq:PId}{b:Int→TUnit}{B E r:List Int}{w F:Int}{j:Nat}(h:VerA V pq b B E (w::r))(hE:E=B++[F])(hd:B.drop j=w::r)(hV:V=[]):bB pq (b w)=false:=by
  cases hu:bB pq (b w)with
  |false=>rfl
  | true=>
    obtain⟨_,q2,_⟩:=R6 hd
    have z:=h.v
    rw[q2,xF hE hd,hV]at z
    refine absurd z.symm (JL _ _ ?_)
    unfold dV
    rw[hu];exact mJ _ _
def O4(gs:List PGaz)(pq:PId)(p:aT)(z6:List Int):Prop:=z6=cw gs++[(1048577:Int)]
noncomputable def O3(gs:List PGaz)(pq:PId)(p:aT)(z6:List Int):List AV×List AObj:=([AV.str p,AV.ls (gs.map ap),AV.func (Fn.func 16) [] [AV.ptr 0 0 0 0,AV.ptr 1 0 0 0],AV.ls (z6.map ak)],[AObj.row 3 false 0 [AV.agg [iV pq.a,iV pq.i,iV pq.n]],AObj.row 1 false 0 [AV.nils]])
theorem XH(gs:List PGaz)(pq:PId)(p:aT)(ok:OkG gs)(hV:jf gs pq p=[]):
    kD 15 [.str p,.ls (gs.map ap),.func (.func 16) [] [.ptr 0 0 0 0,.ptr 1 0 0 0]] (av [iw pq,dU]) (.tuple []) (av [iw pq,dU]):=by
  have hbk:∀d,kP 27 [iV d,.str p,.ls (gs.map ap)] (eU (dB d p gs)):=fun d=>ok.book d p
  have hob:∀d,OkB (dB d p gs):=fun d=>ok.okB d p
  have q1:=bpA ok pq
  have q2:=bpB ok pq
  have hl:=AM gs
  obtain⟨hR1,hR2⟩:=RP gs
  let q:=[ay [iV pq.a,iV pq.i,iV pq.n]];let q3:=List.map ak (((lz gs).set (cw gs).length 1048577).take ((cw gs).length+1));let q4:=List.map ak (lz gs++[1048577]);let q5:=[iV 0,iV 1048577];let q6:=[aE 3 (AN gs) 0 (Zw gs).length none];let q7:=[iV 1048577];exact eg Tryz.func15 fun a=>Mj (List Int) [0,1,2,6] (O3 gs pq p) (O4 gs pq p) (fun a=>Ms (RR gs).isEmpty (fun b=>Ms (aC (Int.ofNat (cw gs).length)<|Int.ofNat (lz gs).length) (fun c=>have:=al c;Ke 0 (q1 b)<|K1 1 (.frz 2 [0,1,2,12]) (b6 rt rt ti)<|Kl 0 6 (Le.lsp (t:=false) (Eq.symm<|F4 (f:=ak) (g:=ak) (ws:=[0,1048577]) fun _=>rfl) (aY 0:aq (q5)=0))<|Mf<|a [0,1048577] (by(rw[uP (by assumption)];rfl):[(0:Int),(1048577:Int)]=cw gs++[(1048577:Int)])) fun c=>have:=aD c;Ke 0 (q1 b)<|K1 1 (.frz 2 [0,1,2,12]) (b6 rt rt ti)<|Kl 0 6 (Le.lsp (t:=false) (Eq.symm<|F4 (f:=ak) (g:=ak) (ws:=[0,1048577]) fun _=>rfl) (aY 0:aq (q5)=0))<|Mf<|a [0,1048577] (by(rw[uP (by assumption)];rfl):[(0:Int),(1048577:Int)]=cw gs++[(1048577:Int)])) fun b=>Ms (aC (Int.ofNat (cw gs).length)<|Int.ofNat (lz gs).length) (fun c=>have:=al c;Ke 0 (q2 b)<|Mg 0<|Mw (.opv (aE 3 (AN gs) 0 ((cw gs).length+1) none) (av [aZ 3 false 0 q,aZ 1 false 0 [ab],aZ 1 false 0 q6,aZ 1 true (AN gs)<|((lz gs).set (cw gs).length 1048577).map ak])<|.fsl 2 [0,1,2] 12 q3<|.le 12 (aW q3)<|.go 0 .fin)<|vS (R9 (sz:=1) (b:=8) (id:=3) (ep:=AN gs) (len:=(cw gs).length) (op:=true) (h:=av [aZ 3 false 0 q,aZ 1 false 0 [ab],aZ 1 false 0 q6,aZ 1 true (AN gs)<|(lz gs).map ak]) (xs:=List.map ak<|lz gs) (new:=q7) (xs':=List.map ak<|(lz gs).set (cw gs).length 1048577) (x:=i7 q7 true) (by kernel_rfl) (by kernel_rfl) rt (mJ _ _) (bT (by(simp only[oN,lM,lS]at *;omega):(cw gs).length+1≤(lz gs).length)<|rN (cQ ..).symm) (BO (f:=ak) (g:=ak) (fun _=>rfl) (l:=lz gs) (k:=(cw gs).length) (w:=1048577) (by(simp only[oN,lM,lS]at *;omega):(cw gs).length<(lz gs).length)) (by(refine cj (m:=2^22) ?_ ?_ ?_<;>first|omega|decide):small ((cw gs).length+1) 8=true)) (b6 rt rt ti) (b6 (aY<|AN gs) (wm (f:=ak) (l:=(lz gs).set (cw gs).length 1048577) (n:=(cw gs).length+1))<|aX Jx<|((lz gs).set (cw gs).length 1048577).take<|(cw gs).length+1) (eT q3 false<|aX Jx<|((lz gs).set (cw gs).length 1048577).take<|(cw gs).length+1)<|a (((lz gs).set (cw gs).length 1048577).take<|(cw gs).length+1) (by(exact RO hR2 (by(simp only[oN]at *;omega))):List.take ((cw gs).length+1) ((lz gs).set (cw gs).length (1048577:Int))=cw gs++[(1048577:Int)])) fun c=>have:=aD c;Ke 0 (q2 b)<|K1 0 .app (b6 (aY<|AN gs) (by(rw[lM];(simp only[oN]at *;omega)):(cw gs).length=((lz gs).map ak).length) (by(refine cj (m:=2^22) ?_ ?_ ?_<;>first|omega|decide):small ((cw gs).length+1) 8=true))<|M1 (.obj 3<|aZ 1 true (AN gs+1) q4) (congrArg (aZ 1 true<|AN gs+1)<|co (f:=ak) (l:=lz gs) (ws:=[1048577]))<|M2 (.fsl 2 [0,1,2] 12 q4) (b6 rt rt ti) (b6 (aY<|AN gs+1) (tA ak (lz gs++[1048577]) ((cw gs).length+1) (by(rw[lA];simp only[lC,lN];(simp only[oN]at *;omega)):(lz gs++[1048577]).length=(cw gs).length+1))<|aX Jx<|lz gs++[1048577])<|Ml 12 (eT q4 false<|aX Jx<|lz gs++[1048577])<|Kf 0<|a (lz gs++[1048577]) (by(rw[show lz gs=cw gs from(by rw[←hR2,wz (by(simp only[oN]at *;omega))])]):lz gs++[(1048577:Int)]=cw gs++[(1048577:Int)])) fun b c=>have c:=c;have:b.length=(cw gs).length+1:=(by rw[c,lA];rfl);have:(b.take (b.length-1)).length=b.length-1:=(by rw[List.length_take];omega);Kl 2 15 (ln ak b)<|Kl 0 16 (sk b.length)<|M1 (.slp<|(b.take<|b.length-1).map ak) (b6 (hM 1 ak b fun _=>rfl) (et (oA:0≤b.length-1) (by(simp only[oN,lM,lS]at *;omega):b.length-1≤(b.map ak).length))<|Vq (f:=ak) (l:=b) (h:=b.length-1))<|Kl 0 18 (ln ak<|List.take (b.length-1) b)<|Mg 0<|tJ ak (List.take (b.length-1) b) [0,1,2,6,17,18,19] (fun a _=>([aj p,aW<|gs.map ap,bU (bY 16) [] [bJ 0 0 0 0,bJ 1 0 0 0],aW<|b.map ak,aW<|(b.take<|b.length-1).map ak,nV (b.take<|b.length-1).length,nV a],[aZ 3 false 0 [ay [iV pq.a,iV pq.i,iV pq.n]],aZ 1 false 0 [ab]])) (fun a=>VerA (jf gs pq p) pq (fun a=>dB a p gs) (b.take<|b.length-1) b a) (by(exact XD c)) (fun _ _ _ _ _ b _=>Kh 0 b<|Mf a) fun a _ e _ f g h i j _ k l=>Kt 0 j<|Kx 0 k<|Mg 6<|Ma (gc a)<|Mx (aI ak (by(simp only[oN,lM,lS]at *;omega):a+1<(b).length))<|Kp 4 (hbk f)<|M3 (.efx true (b9 [])<|av [aZ 3 false 0 q,aZ 1 false 0 [ab]]) (b6 rt rt ti) (b6 (aY<|some<|aZ 1 false 0 [ab]) (aY<|some<|aZ 3 false 0 q) ti) (YI pq f (gD b<|a+1) (dB f p gs) (by exact hob _)<|by exact l.none (ur c).2 (e.trans i) hV)<|Kl 0 37 (gc a)<|Kf 0<|h<|by exact l.no (ur c).2 (e.trans i) (l.none (ur c).2 (e.trans i) hV)
def O2(gs:List PGaz)(pq:PId)(p:aT)(z6:List Int):Prop:=z6=cw gs++[(1048577:Int)]
noncomputable def O1(gs:List PGaz)(pq:PId)(p:aT)(z6:List Int):List AV×List AObj:=([AV.str p,AV.ls (gs.map ap),AV.func (Fn.func 16) [] [AV.ptr 0 0 0 0,AV.ptr 1 0 0 0],AV.ls (z6.map ak)],[AObj.row 3 false 0 [AV.agg [iV pq.a,iV pq.i,iV pq.n]],AObj.row 1 false 0 [AV.nils]])
def IX(gs:List PGaz)(pq:PId)(p:aT)(z6:List Int)(x0:Nat×List Int×Unit):Prop:=(z6.take (z6.length-1)).drop x0.1=x0.2.1∧VerA (jf gs pq p) pq (fun a=>dB a p gs) (z6.take (z6.length-(1:Nat))) z6 x0.2.1
noncomputable def yE(gs:List PGaz)(pq:PId)(p:aT)(z6:List Int)(x0:Nat×List Int×Unit):List AV×List AObj:=([AV.str p,AV.ls (gs.map ap),AV.func (Fn.func 16) [] [AV.ptr 0 0 0 0,AV.ptr 1 0 0 0],AV.ls (z6.map ak),AV.ls ((z6.take (z6.length-1)).map ak),nV (z6.take (z6.length-1)).length,nV x0.1],[AObj.row 3 false 0 [AV.agg [iV pq.a,iV pq.i,iV pq.n]],AObj.row 1 false 0 [AV.nils]])
def IZ(gs:List PGaz)(pq:PId)(p:aT)(z6:List Int)(x0:Nat×List Int×List PVer):Prop:=(z6.take (z6.length-1)).drop x0.1=x0.2.1∧VerB (jf gs pq p) pq (fun a=>dB a p gs) (z6.take (z6.length-(1:Nat))) z6 x0.2.1 x0.2.2
noncomputable def IQ(gs:List PGaz)(pq:PId)(p:aT)(z6:List Int)(x0:Nat×List Int×List PVer):List AV×List AObj:=([AV.str p,AV.ls (gs.map ap),AV.func (Fn.func 16) [] [AV.ptr 0 0 0 0,AV.ptr 1 0 0 0],AV.ls (z6.map ak),AV.ls ((z6.take (z6.length-1)).map ak),nV (z6.take (z6.length-1)).length,nV x0.1],[AObj.row 3 false 0 [AV.agg [iV pq.a,iV pq.i,iV pq.n]],AObj.row 1 false 0 [AV.slice 2 (x0.2.2.length-1) 0 x0.2.2.length none],AObj.row 14 true (x0.2.2.length-1) (x0.2.2.map bI)])
theorem XG(gs:List PGaz)(pq:PId)(p:aT)(ok:OkG gs)(hV:jf gs pq p≠[]):
    kD 15 [.str p,.ls (gs.map ap),.func (.func 16) [] [.ptr 0 0 0 0,.ptr 1 0 0 0]] (av [iw pq,dU]) (.tuple []) (av [iw pq,gH 2 ((jf gs pq p).length -1) (jf gs pq p).length,lP ((jf gs pq p).length -1) (jf gs pq p)]):=by
  have hbk:∀d,kP 27 [iV d,.str p,.ls (gs.map ap)] (eU (dB d p gs)):=fun d=>ok.book d p
  have hob:∀d,OkB (dB d p gs):=fun d=>ok.okB d p
  have q1:=bpA ok pq
  have q2:=bpB ok pq
  have hl:=AM gs
  obtain⟨hR1,hR2⟩:=RP gs
  let q3:=[ay [iV pq.a,iV pq.i,iV pq.n]];let q4:=List.map ak (((lz gs).set (cw gs).length 1048577).take ((cw gs).length+1));let q5:=List.map ak (lz gs++[1048577]);let q6:=[iV 0,iV 1048577];let q7:=b9 [];let q8:=[aE 3 (AN gs) 0 (Zw gs).length none];let q9:=[iV 1048577];exact JF Tryz.func15<|Mj (List Int) [0,1,2,6] (O1 gs pq p) (O2 gs pq p) (fun a=>Ms (RR gs).isEmpty (fun b=>Ms (aC (Int.ofNat (cw gs).length)<|Int.ofNat (lz gs).length) (fun c=>have:=al c;Ke 0 (q1 b)<|K1 1 (.frz 2 [0,1,2,12]) (b6 rt rt ti)<|Kl 0 6 (Le.lsp (t:=false) (Eq.symm<|F4 (f:=ak) (g:=ak) (ws:=[0,1048577]) fun _=>rfl) (aY 0:aq (q6)=0))<|Mf<|a [0,1048577] (by(rw[uP (by assumption)];rfl):[(0:Int),(1048577:Int)]=cw gs++[(1048577:Int)])) fun c=>have:=aD c;Ke 0 (q1 b)<|K1 1 (.frz 2 [0,1,2,12]) (b6 rt rt ti)<|Kl 0 6 (Le.lsp (t:=false) (Eq.symm<|F4 (f:=ak) (g:=ak) (ws:=[0,1048577]) fun _=>rfl) (aY 0:aq (q6)=0))<|Mf<|a [0,1048577] (by(rw[uP (by assumption)];rfl):[(0:Int),(1048577:Int)]=cw gs++[(1048577:Int)])) fun b=>Ms (aC (Int.ofNat (cw gs).length)<|Int.ofNat (lz gs).length) (fun c=>have:=al c;Ke 0 (q2 b)<|Mg 0<|Mw (.opv (aE 3 (AN gs) 0 ((cw gs).length+1) none) (av [aZ 3 false 0 q3,aZ 1 false 0 [ab],aZ 1 false 0 q8,aZ 1 true (AN gs)<|((lz gs).set (cw gs).length 1048577).map ak])<|.fsl 2 [0,1,2] 12 q4<|.le 12 (aW q4)<|.go 0 .fin)<|vS (R9 (sz:=1) (b:=8) (id:=3) (ep:=AN gs) (len:=(cw gs).length) (op:=true) (h:=av [aZ 3 false 0 q3,aZ 1 false 0 [ab],aZ 1 false 0 q8,aZ 1 true (AN gs)<|(lz gs).map ak]) (xs:=List.map ak<|lz gs) (new:=q9) (xs':=List.map ak<|(lz gs).set (cw gs).length 1048577) (x:=i7 q9 true) (by kernel_rfl) (by kernel_rfl) rt (mJ _ _) (bT (by(simp only[oN,lM,lS]at *;omega):(cw gs).length+1≤(lz gs).length)<|rN (cQ ..).symm) (BO (f:=ak) (g:=ak) (fun _=>rfl) (l:=lz gs) (k:=(cw gs).length) (w:=1048577) (by(simp only[oN,lM,lS]at *;omega):(cw gs).length<(lz gs).length)) (by(refine cj (m:=2^22) ?_ ?_ ?_<;>first|omega|decide):small ((cw gs).length+1) 8=true)) (b6 rt rt ti) (b6 (aY<|AN gs) (wm (f:=ak) (l:=(lz gs).set (cw gs).length 1048577) (n:=(cw gs).length+1))<|aX Jx<|((lz gs).set (cw gs).length 1048577).take<|(cw gs).length+1) (eT q4 false<|aX Jx<|((lz gs).set (cw gs).length 1048577).take<|(cw gs).length+1)<|a (((lz gs).set (cw gs).length 1048577).take<|(cw gs).length+1) (by(exact RO hR2 (by(simp only[oN]at *;omega))):List.take ((cw gs).length+1) ((lz gs).set (cw gs).length (1048577:Int))=cw gs++[(1048577:Int)])) fun c=>have:=aD c;Ke 0 (q2 b)<|K1 0 .app (b6 (aY<|AN gs) (by(rw[lM];(simp only[oN]at *;omega)):(cw gs).length=((lz gs).map ak).length) (by(refine cj (m:=2^22) ?_ ?_ ?_<;>first|omega|decide):small ((cw gs).length+1) 8=true))<|M1 (.obj 3<|aZ 1 true (AN gs+1) q5) (congrArg (aZ 1 true<|AN gs+1)<|co (f:=ak) (l:=lz gs) (ws:=[1048577]))<|M2 (.fsl 2 [0,1,2] 12 q5) (b6 rt rt ti) (b6 (aY<|AN gs+1) (tA ak (lz gs++[1048577]) ((cw gs).length+1) (by(rw[lA];simp only[lC,lN];(simp only[oN]at *;omega)):(lz gs++[1048577]).length=(cw gs).length+1))<|aX Jx<|lz gs++[1048577])<|Ml 12 (eT q5 false<|aX Jx<|lz gs++[1048577])<|Kf 0<|a (lz gs++[1048577]) (by(rw[show lz gs=cw gs from(by rw[←hR2,wz (by(simp only[oN]at *;omega))])]):lz gs++[(1048577:Int)]=cw gs++[(1048577:Int)])) fun a b=>have b:=b;have:a.length=(cw gs).length+1:=(by rw[b,lA];rfl);have:(a.take (a.length-1)).length=a.length-1:=(by rw[List.length_take];omega);Kl 2 15 (ln ak a)<|Kl 0 16 (sk a.length)<|M1 (.slp<|(a.take<|a.length-1).map ak) (b6 (hM 1 ak a fun _=>rfl) (et (oA:0≤a.length-1) (by(simp only[oN,lM,lS]at *;omega):a.length-1≤(a.map ak).length))<|Vq (f:=ak) (l:=a) (h:=a.length-1))<|Kl 0 18 (ln ak<|List.take (a.length-1) a)<|Mg 0<|MM (Nat×List Int×Unit) (Nat×List Int×List PVer) [0,1,2,6,17,18,19] (yE gs pq p a) (IQ gs pq p a) (IX gs pq p a) (IZ gs pq p a) (fun a=>a.2.1.length) (fun a=>a.2.1.length) (.inl (0,List.take (a.length-1) a,())) (aY<|yE gs pq p a (0,List.take (a.length-1) a,())) (et (rfl:List.drop 0 (a.take (a.length-1))=List.take (a.length-1) a) (by(exact XD b):(VerA (jf gs pq p) pq (fun a=>dB a p gs) (a.take (a.length-1)) a (a.take (a.length-1))))) (fun c e f=>Mi (fun b _=>VerA (jf gs pq p) pq (fun a=>dB a p gs) (a.take<|a.length-1) a b) ak e (fun _ a c=>Kh 0 a<|Mw .abs (by exact hV (c.end_ (ur b).2):False)) fun g h i j _ k l=>Kt 0 j<|Kx 0 k<|Ks 2 (bB pq<|dB g p gs) (fun j=>Mg 3<|Ma (gc c.1)<|Mx (aI ak (by(simp only[oN,lM,lS]at *;omega):c.1+1<(a).length))<|Kp 4 (hbk g)<|M3 (.efx false q7<|av [aZ 3 false 0 q3,aZ 1 false 0 [aE 2 ((dV gg pq [] (PSpan.mk g<|gD a<|c.1+1)<|dB g p gs).length -1) 0 (dV gg pq [] (PSpan.mk g<|gD a<|c.1+1)<|dB g p gs).length none],aZ 14 true ((dV gg pq [] (PSpan.mk g<|gD a<|c.1+1)<|dB g p gs).length -1)<|(dV gg pq [] (PSpan.mk g<|gD a<|c.1+1)<|dB g p gs).map bI]) (b6 rt rt ti) ti (ZL pq g (gD a<|c.1+1) (dB g p gs) (by exact hob _) j)<|Kl 0 37 (gc c.1)<|Kf 0<|f (.inr (c.1+1,h,dV gg pq [] (PSpan.mk g<|gD a<|c.1+1)<|dB g p gs)) (et (bW e.1 i) (by exact l.new (ur b).2 (e.1.trans i) (hob _) (by assumption):(VerB (jf gs pq p) pq (fun a=>dB a p gs) (a.take (a.length-1)) a h (dV gg pq [] (PSpan.mk g (gD a (c.1+1))) (dB g p gs)))))<|dt i) fun j=>Mg 3<|Ma (gc c.1)<|Mx (aI ak (by(simp only[oN,lM,lS]at *;omega):c.1+1<(a).length))<|Kp 4 (hbk g)<|M3 (.efx true q7<|av [aZ 3 false 0 q3,aZ 1 false 0 [ab]]) (b6 rt rt ti) (b6 (aY<|some<|aZ 1 false 0 [ab]) (aY<|some<|aZ 3 false 0 q3) ti) (YL pq g (gD a<|c.1+1) (dB g p gs) (by exact hob _) j)<|Kl 0 37 (gc c.1)<|Kf 0<|f (.inl (c.1+1,h,())) (et (bW e.1 i) (by exact l.no (ur b).2 (e.1.trans i) (by assumption):(VerA (jf gs pq p) pq (fun a=>dB a p gs) (a.take (a.length-1)) a h)))<|dt i) fun c e f=>Mc c.2.1 (fun f=>have g:=fK e.1 f;have a:=gP (J:=fun b c=>VerB (jf gs pq p) pq (fun a=>dB a p gs) (a.take<|a.length-1) a b c) (a:=c.2.2) f e.2;Kh 0 g<|Mf<|et (aY q7) (by(rw[a.end_ (ur b).2];try rfl):(av [AObj.row 3 false 0 [AV.agg [iV pq.a,iV pq.i,iV pq.n]],AObj.row 1 false 0 [AV.slice 2 (c.2.2.length-1) 0 c.2.2.length none],AObj.row 14 true (c.2.2.length-1) (c.2.2.map bI)])=(av [iw pq,gH 2 ((jf gs pq p).length -1) (jf gs pq p).length,lP ((jf gs pq p).length -1) (jf gs pq p)]))) fun g h i=>let j:=av [aZ 3 false 0 q3,aZ 1 false 0 [aE 2 ((dV gg pq c.2.2 (PSpan.mk g<|gD a<|c.1+1)<|dB g p gs).length -1) 0 (dV gg pq c.2.2 (PSpan.mk g<|gD a<|c.1+1)<|dB g p gs).length none],aZ 14 true ((dV gg pq c.2.2 (PSpan.mk g<|gD a<|c.1+1)<|dB g p gs).length -1)<|(dV gg pq c.2.2 (PSpan.mk g<|gD a<|c.1+1)<|dB g p gs).map bI];have k:=ft e.1 i;have:=al k;have l:=fJ (enc:=ak) e.1 i;have n:=ch (J:=fun b c=>VerB (jf gs pq p) pq (fun a=>dB a p gs) (a.take<|a.length-1) a b c) (a:=c.2.2) i e.2;Kt 0 k<|Kx 0 l<|Ks 2 (bB pq<|dB g p gs) (fun _=>Mg 3<|Ma (gc c.1)<|Mx (aI ak (by(simp only[oN,lM,lS]at *;omega):c.1+1<(a).length))<|Kp 4 (hbk g)<|M3 (.efx false q7 j) (jc (tR 14 true (c.2.2.length-1) 3<|aX iN c.2.2) rt rt ti) ti (YH pq g (gD a<|c.1+1) (dB g p gs) c.2.2 (by exact hob _) (by exact n.ne) (by(have z:=n.len;omega))<|by exact n.fit)<|Kl 0 37 (gc c.1)<|Kf 0<|f (.inr (c.1+1,h,dV gg pq c.2.2 (PSpan.mk g<|gD a<|c.1+1)<|dB g p gs)) (et (bW e.1 i) (by exact n.step (ur b).2 (e.1.trans i) (hob _):(VerB (jf gs pq p) pq (fun a=>dB a p gs) (a.take (a.length-1)) a h (dV gg pq c.2.2 (PSpan.mk g (gD a (c.1+1))) (dB g p gs)))))<|dt i) fun _=>Mg 3<|Ma (gc c.1)<|Mx (aI ak (by(simp only[oN,lM,lS]at *;omega):c.1+1<(a).length))<|Kp 4 (hbk g)<|M3 (.efx false q7 j) (jc (tR 14 true (c.2.2.length-1) 3<|aX iN c.2.2) rt rt ti) ti (YH pq g (gD a<|c.1+1) (dB g p gs) c.2.2 (by exact hob _) (by exact n.ne) (by(have z:=n.len;omega))<|by exact n.fit)<|Kl 0 37 (gc c.1)<|Kf 0<|f (.inr (c.1+1,h,dV gg pq c.2.2 (PSpan.mk g<|gD a<|c.1+1)<|dB g p gs)) (et (bW e.1 i) (by exact n.step (ur b).2 (e.1.trans i) (hob _):(VerB (jf gs pq p) pq (fun a=>dB a p gs) (a.take (a.length-1)) a h (dV gg pq c.2.2 (PSpan.mk g (gD a (c.1+1))) (dB g p gs)))))<|dt i
theorem VE(gs:List PGaz)(pq:PId)(p:aT)(ok:OkG gs)(hV:jf gs pq p=[]):kP 7 [aK pq,.str p,.ls (gs.map ap)] (.ls (([]:List PVer).map bI)):=by
  have hs:=XH gs pq p ok hV
  exact bM Tryz.func7<|Ke 5 hs<|Kf 1 bL
theorem VD(gs:List PGaz)(pq:PId)(p:aT)(ok:OkG gs)(hV:jf gs pq p≠[]):kP 7 [aK pq,.str p,.ls (gs.map ap)] (.ls ((jf gs pq p).map bI)):=by
  have hs:=XG gs pq p ok hV
  generalize jf gs pq p=V at *
  let q:=List.map bI V;exact bM Tryz.func7<|Ke 5 hs<|Mg 1<|M2 (.fsl 0 [] 6 q) ti (b6 (aY<|V.length-1) (tA bI V V.length rfl)<|aX iN V)<|Ml 6 (eT q false<|aX iN V)<|Mf<|bp<|aW q
theorem E5(gs:List PGaz)(pq:PId)(p:aT)(ok:OkG gs):kP 7 [aK pq,.str p,.ls (gs.map ap)] (.ls ((jf gs pq p).map bI)):=by
  by_cases h:jf gs pq p=[]
  · have z:=VE gs pq p ok h
    rw[h];exact z
  · exact VD gs pq p ok h


theorem QK(gs:List PGaz)(p:aT)(hf:og gs):kP 6 [.ls (gs.map ap),.str p] (.bool (GR gs p)):=by
  have h:=Ua gs p hf
  exact bM Tryz.func6<|Kp 2 h<|Kf 0<|bp<|eS<|GR gs p
theorem GZ:∀(r:List Int)(a F:Int),pE a (r++[F])=F
  |[],_,_=>rfl
  |c::r,a,F=>GZ r c F
def r8(v:PVer):PSpan:=⟨v.from_,v.to⟩
theorem FP:kP 20 [.ls []] (.ls ((fc []).map aJ)):=fV [] (by simp)
theorem Ur(gs:List PGaz)(pq:PId)(p:aT)(V:List PVer)(hV:kP 7 [aK pq,.str p,.ls (gs.map ap)] (.ls (V.map bI)))(hl:V.length<2^22):kP 8 [aK pq,.str p,.ls (gs.map ap)] (.ls ((fc (V.map r8)).map aJ)):=by
  have rr0 b' (h:((fc (V.map r8)).map aJ)=b':=by first|rfl|(rw[←hj0];rfl)|(rw[hj0.2.1,wq,ec])):=h;exact bM Tryz.func8<|Kp 5 hV<|Kl 0 14 (ln bI V)<|Mg 0<|kr Nat Nat (List PSpan) bI V [7,13,14,15] (fun a _=>([ab,aW<|V.map bI,nV V.length,nV a],[aZ 3 false 0 [ay [iV pq.a,iV pq.i,iV pq.n]]])) (fun a _ b c d=>([aE 1 b 0 c none,aW<|V.map bI,nV V.length,nV a],[aZ 3 false 0 [ay [iV pq.a,iV pq.i,iV pq.n]],aZ 2 true b<|d.map aJ])) (fun a=>a=V) (fun a _ b c=>b=c.length∧List.map r8 V=c++List.map r8 a∧b+a.length=V.length) (by rfl) (fun _ _ _ _ _ a hj0=>Kh 0 a<|Kl 0 25 bL<|Mp FP<|Kf 0<|cV<|rr0<|(fc []).map aJ) (fun a _ _ _ b c _ d _ e _ f hj0=>Kt 0 e<|Mx f<|Kl 9 24 (dq a)<|Mg 0<|M0 (.ren [0,2,1] [] [7,13,14,15])<|M1 (.frz 2 [7,13,14,15]) (b6 rt rt ti)<|Mf<|d 0 1 [PSpan.mk b.from_ b.to]<|by exact⟨rfl,by rw[←hj0];rfl,by rw[←hj0];simp only[lC];omega⟩) (fun _ _ a b c _ _ _ d hj0=>let e:=List.map aJ c;Kh 0 d<|Mg 0<|M2 (.fsl 1 [] 25 e) (et rt ti) (b6 (aY a) (tA aJ c b (by(omega):(c).length=b))<|aX Vl c)<|Ml 25 (eT e false<|aX Vl c)<|Mp (fV c<|by(omega))<|Kf 0<|cV<|rr0<|(fc c).map aJ) fun a _ b c d _ _ e f _ g _ i _ j hj0=>Kt 0 i<|Mx j<|K1 6 .app (b6 (aY b) (by(rw[lM];exact hj0.1):c=(d.map aJ).length) (by(have z:=hj0.2.2;simp only[lC]at z;refine cj (m:=2^23) ?_ ?_ ?_<;>first|omega|decide):small (c+1) 16=true))<|M1 (.obj 1<|aZ 2 true (b+1)<|(d++[PSpan.mk e.from_ e.to]).map aJ) (congrArg (aZ 2 true<|b+1)<|co (f:=aJ) (l:=d) (ws:=[PSpan.mk e.from_ e.to]))<|Kl 1 24 (dq a)<|K1 0 (.frz 2 [7,13,14,15]) (b6 (tR 2 true (b+1) 2<|aX Vl<|d++[PSpan.mk e.from_ e.to]) rt ti)<|Mf<|g (b+1) (c+1) (d++[PSpan.mk e.from_ e.to])<|by exact⟨by rw[lA,←hj0.1];rfl,by rw[hj0.2.1];simp[r8],by(have z:=hj0.2.2;simp only[lC]at z;omega)⟩
def sJ(day:Int)(s:PSpan):Bool:=ax (aC day s.from_)&&aC day s.to
theorem QE(l:List PSpan)(day:Int)(hl:l.length<2^30):kP 10 [.ls (l.map aJ),iV day] (.bool (l.any (sJ day))):=by
  have rr0 b' (h:(l.any (sJ day))=b':=by first|(rw[hj0];simp only[jV,sJ,aS,ax,bS, *];first|done|rfl)|(rw[hj0];rfl)):=h;exact bM Tryz.func10<|Mg 1<|tJ aJ l [0,1,5] (fun a _=>([aW<|l.map aJ,iV day,nV a],[])) (fun a=>l.any (sJ day)=a.any (sJ day)) (by rfl) (fun _ _ _ _ _ a hj0=>Kl 2 8 (ln aJ l)<|Kh 0 a<|Ky 0<|rr0 false) fun a _ _ _ b c d _ e _ f hj0=>Kl 2 8 (ln aJ l)<|Kt 0 e<|Kx 1 f<|Kd 4 day b.from_ (fun e _=>Kt 0 (bo e)<|Kt 0 (bo e)<|Kt 0 (bo e)<|Mx f<|Mt (bo e)<|Kt 0 (bo e)<|Kt 0 (bo e)<|Ku 0 (bo e)<|Mb (aC day b.to) (fun a=>have:=al a;Ky 0<|rr0 true) fun b=>have:=aD b;Kl 1 11 (dq a)<|Kf 0<|d<|by(rw[hj0,jV];simp only[sJ,aS,ax,bS, *];first|done|rfl)) fun b _=>Mh (bw b)<|Mh (bw b)<|Mh (bw b)<|Mh (bw b)<|Mh (bw b)<|Mh (bw b)<|My (bw b)<|Kl 2 11 (dq a)<|Kf 0<|d<|by(rw[hj0,jV];simp only[sJ,aS,ax,bS, *];first|done|rfl)
theorem XP{a b:TUnit}(ha:mb a)(hb:mb b)(ka:a.kids=[])(kb:b.kids=[]):kP 9 [SD a,SD b] (.bool (gg a b)):=
  (V3 a ha b hb).onArgs (.cons (Dj ka) (.cons (Dj kb) .nil))
end Go.Proofs.YtjokefckffbpeaaGreatDoor
