/- Functions walked: what each of them answers, for the law of disjoint versions: part 9. Conditions: those that each theorem names. -/
import Derived.Test.YtjokefckffbpeaaGreatDoorH8
namespace Go.Proofs.YtjokefckffbpeaaGreatDoor
open Go Go.Ev
theorem V4{l r t:List PVer}{w:PVer}{i:Nat}(h:l.drop i=r)(hr:r=w::t):w=gD l i:=by
  subst hr
  have hi:i<l.length:=by
    have:=congrArg List.length h
    rw[tV,lC]at this;omega
  have z:=pc hi
  rw[h]at z
  exact(List.cons.inj z).1
theorem Yb(gs:List PGaz)(pq:PId)(p:aT)(day:Int)(haw:kP 5 [] (.bool true))(hw:kP 6 [.ls (gs.map ap),.str p] (.bool false)):kP 3 [.ls (gs.map ap),aK pq,.str p,iV day] (.bool true):=by
  exact bM Tryz.func3<|Kp 1 haw<|Kp 3 hw<|Kf 2<|bp<|eS true
theorem Yc(gs:List PGaz)(pq:PId)(p:aT)(day:Int)(V:List PVer)(D:List PSpan)(haw:kP 5 [] (.bool true))(hw:kP 6 [.ls (gs.map ap),.str p] (.bool true))
    (hv:kP 7 [aK pq,.str p,.ls (gs.map ap)] (.ls (V.map bI)))
    (hd:kP 8 [aK pq,.str p,.ls (gs.map ap)] (.ls (D.map aJ)))
    (hh:kP 10 [.ls (D.map aJ),iV day] (.bool (V.any fun v=>sJ day (r8 v))))
    (hs:∀a b:PVer,a∈V→b∈V→kP 9 [SD a.unit,SD b.unit] (.bool (gg a.unit b.unit)))
    (hl:V.length<2^22)
    (hA:∀v,v∈V→aC v.from_ 0=false∧aC v.from_ v.to=true∧aC 1048577 v.to=false)
    (hB:∀(i:Nat)(w:PVer),w=gD V i→i<V.length→0<i→aC w.from_ (gD V (i-1)).to=false∧ql gg (gD V (i-1)) w=false):
    kP 3 [.ls (gs.map ap),aK pq,.str p,iV day] (.bool true):=by
  have rr0 b' (h:(true)=b':=by first|rfl|(exfalso;have z:=hB zi0 w0 qw.symm eR eR;have z1:=z.1;have z2:=z.2;simp only[ql,pi,bj]at z2;simp_all;done)|(rw[hj0];simp;done)):=h;exact bM Tryz.func3<|Kp 1 haw<|Kp 3 hw<|Kp 4 hv<|Kp 3 hd<|K1 2 (.frz 0 [3,9,10,11,12]) ti<|LN bI V false [3,9,10,11,12] (fun c _ d=>([iV day,aW<|V.map bI,aW<|D.map aJ,eS d,nV c],[])) (fun c d=>V.any (fun c=>sJ day<|r8 c)=(d||c.any fun c=>sJ day<|r8 c)) (by first|rfl|(first|rfl|(rw[hj0,jV];simp only[sJ,r8,aS,ax,bS, *];first|done|rfl|(simp;done)))) (fun zi0 _ c _ _ _ d hj0=>Kl 2 29 (ln bI V)<|Kh 0 d<|Kp 2 hh<|Kf 1<|cb<|rr0<|c==V.any fun c=>sJ day<|r8 c) fun zi0 _ c d _ w0 e f g j _ k hj0=>have qw:=(V4 d g).symm;have l:=(hA _<|aN d g).1;have m:=((hA _<|aN d g).2).1;have n:=((hA _<|aN d g).2).2;Kl 2 29 (ln bI V)<|Kt 0 j<|Kx 1 k<|Kh 4 l<|Kh 0 l<|Kh 0 l<|Mx k<|Mh l<|Kh 0 l<|Kh 0 l<|Kh 0 l<|Kh 0 l<|Kh 0 l<|Mx k<|Mh l<|Kh 0 l<|Kh 0 l<|Kh 0 l<|Kw 0 l<|Kh 0 (bw m)<|Kh 0 (bw m)<|Kh 0 (bw m)<|Mx k<|Mh (bw m)<|Kh 0 (bw m)<|Kh 0 (bw m)<|Kh 0 (bw m)<|Kw 0 (bw m)<|Kh 0 n<|Kh 0 n<|Kh 0 n<|Ka 0 0 (Int.ofNat zi0) (fun j _=>Kt 0 j<|Kt 0 j<|Ma (sk zi0)<|Mt j<|Mx (aI bI (by first|omega|(simp only[oN,lM,lS]at *;omega)|(simp only[oN,lM,lS,lA,lR,lC,lN]at * <;>omega):zi0-1<(V).length))<|Mt j<|Kt 0 j<|Kt 0 j<|Kt 0 j<|Kt 0 j<|Kt 0 j<|Mx k<|Mt j<|Kt 0 j<|Kt 0 j<|Kt 0 j<|Kh 0 n<|MV j<|My n<|Ka 0 w0.from_ (gD V<|zi0-1).to (fun c _=>Mt c<|Mt c<|Mt c<|Mt c<|Mt c<|Mt c<|Mt c<|MV c<|Ky 1<|rr0 false) fun l _=>Kh 0 l<|Kh 0 l<|Mx k<|Mh l<|Kh 0 l<|Kh 0 l<|Kh 0 l<|Kh 0 l<|Kw 0 l<|Kt 3 j<|Kt 0 j<|Kt 0 j<|Ma (sk zi0)<|Mt j<|Mx (aI bI (by first|omega|(simp only[oN,lM,lS]at *;omega)|(simp only[oN,lM,lS,lA,lR,lC,lN]at * <;>omega):zi0-1<(V).length))<|Mt j<|Kt 0 j<|Kt 0 j<|Kt 0 j<|Kt 0 j<|Kt 0 j<|Mx k<|Mt j<|Kt 0 j<|Kt 0 j<|Kt 0 j<|Ku 0 j<|Kj 0 (gD V<|zi0-1).to w0.from_ (fun j _=>Kt 0 j<|Kt 0 j<|Ma (sk zi0)<|Mt j<|Mx (aI bI (by first|omega|(simp only[oN,lM,lS]at *;omega)|(simp only[oN,lM,lS,lA,lR,lC,lN]at * <;>omega):zi0-1<(V).length))<|Mt j<|Kt 0 j<|Kt 0 j<|Kt 0 j<|Kt 0 j<|Mx k<|Mt j<|Kt 0 j<|Kt 0 j<|Mv (kB ((Tryz.prog).underlying 24) (gD V<|zi0-1).par.a (gD V<|zi0-1).par.i (gD V<|zi0-1).par.n w0.par.a w0.par.i w0.par.n h0)<|MV j<|Kb 0 (ah (gD V<|zi0-1).par.a w0.par.a&&(ah (gD V<|zi0-1).par.i w0.par.i&&ah (gD V<|zi0-1).par.n w0.par.n)) (fun j=>Kt 0 j<|Kt 0 j<|Ma (sk zi0)<|Mt j<|Mx (aI bI (by first|omega|(simp only[oN,lM,lS]at *;omega)|(simp only[oN,lM,lS,lA,lR,lC,lN]at * <;>omega):zi0-1<(V).length))<|Mt j<|Kt 0 j<|Kt 0 j<|Kt 0 j<|Kt 0 j<|Mx k<|Mt j<|Kt 0 j<|Kt 0 j<|Ku 0 j<|Kj 0 (gD V<|zi0-1).at_ w0.at_ (fun j _=>Kt 0 j<|Kt 0 j<|Ma (sk zi0)<|Mt j<|Mx (aI bI (by first|omega|(simp only[oN,lM,lS]at *;omega)|(simp only[oN,lM,lS,lA,lR,lC,lN]at * <;>omega):zi0-1<(V).length))<|Mt j<|Kt 0 j<|Kt 0 j<|Kt 0 j<|Kt 0 j<|Mx k<|Mt j<|Kt 0 j<|Kt 0 j<|Mp (hs (gD V<|zi0-1) w0 (by first|assumption|(first|omega|(simp only[oN]at *;omega))|exact aN d g|exact gx (by(first|omega|(simp only[oN]at *;omega))))<|by first|assumption|(first|omega|(simp only[oN]at *;omega))|exact aN d g|exact gx (by(first|omega|(simp only[oN]at *;omega))))<|MV j<|Mb (gg (gD V<|zi0-1).unit w0.unit) (fun _=>Kf 0<|cb<|rr0 false) fun _=>Kb 1 c (fun c=>Mt c<|Mt c<|Mt c<|Mt c<|Mt c<|Mt c<|Mt c<|Mt c<|Mt c<|MV c<|Kl 2 32 (gc zi0)<|Kf 0<|f true<|by first|rfl|(rw[hj0,jV];simp only[sJ,r8,aS,ax,bS, *];first|done|rfl|(simp;done))) fun c=>Kh 0 c<|Kh 0 c<|Mx k<|Mh c<|Kh 0 c<|Kh 0 c<|Kh 0 c<|Kh 0 c<|Kh 0 c<|Kd 0 day w0.from_ (fun d _=>Kt 0 (bo d)<|Kt 0 (bo d)<|Kt 0 (bo d)<|Mx k<|Mt (bo d)<|Kt 0 (bo d)<|Kt 0 (bo d)<|Kt 0 (bo d)<|Kh 0 c<|MV (bo d)<|My c<|Kl 2 32 (gc zi0)<|Kf 0<|f (aC day w0.to)<|by first|rfl|(rw[hj0,jV];simp only[sJ,r8,aS,ax,bS, *];first|done|rfl|(simp;done))) fun d _=>Mh (bw d)<|Mh (bw d)<|Mh (bw d)<|Mh (bw d)<|Mh (bw d)<|Mh (bw d)<|Mh (bw d)<|Mh c<|My (bw d)<|My c<|Kl 2 32 (gc zi0)<|Kf 0<|f false<|by first|rfl|(rw[hj0,jV];simp only[sJ,r8,aS,ax,bS, *];first|done|rfl|(simp;done))) fun d _=>Mh d<|Mh d<|Mh d<|Mh d<|Mh d<|Mh d<|Mh d<|Mh d<|Mh d<|Mh d<|Mh d<|My d<|Kb 2 c (fun c=>Mt c<|Mt c<|Mt c<|Mt c<|Mt c<|Mt c<|Mt c<|Mt c<|Mt c<|MV c<|Kl 2 32 (gc zi0)<|Kf 0<|f true<|by first|rfl|(rw[hj0,jV];simp only[sJ,r8,aS,ax,bS, *];first|done|rfl|(simp;done))) fun c=>Kh 0 c<|Kh 0 c<|Mx k<|Mh c<|Kh 0 c<|Kh 0 c<|Kh 0 c<|Kh 0 c<|Kh 0 c<|Kd 0 day w0.from_ (fun d _=>Kt 0 (bo d)<|Kt 0 (bo d)<|Kt 0 (bo d)<|Mx k<|Mt (bo d)<|Kt 0 (bo d)<|Kt 0 (bo d)<|Kt 0 (bo d)<|Kh 0 c<|MV (bo d)<|My c<|Kl 2 32 (gc zi0)<|Kf 0<|f (aC day w0.to)<|by first|rfl|(rw[hj0,jV];simp only[sJ,r8,aS,ax,bS, *];first|done|rfl|(simp;done))) fun d _=>Mh (bw d)<|Mh (bw d)<|Mh (bw d)<|Mh (bw d)<|Mh (bw d)<|Mh (bw d)<|Mh (bw d)<|Mh c<|My (bw d)<|My c<|Kl 2 32 (gc zi0)<|Kf 0<|f false<|by first|rfl|(rw[hj0,jV];simp only[sJ,r8,aS,ax,bS, *];first|done|rfl|(simp;done))) fun d=>Mh d<|Mh d<|Mh d<|Mh d<|Mh d<|Mh d<|Mh d<|Mh d<|Mh d<|Mh d<|Mh d<|My d<|Kb 4 c (fun c=>Mt c<|Mt c<|Mt c<|Mt c<|Mt c<|Mt c<|Mt c<|Mt c<|Mt c<|MV c<|Kl 2 32 (gc zi0)<|Kf 0<|f true<|by first|rfl|(rw[hj0,jV];simp only[sJ,r8,aS,ax,bS, *];first|done|rfl|(simp;done))) fun c=>Kh 0 c<|Kh 0 c<|Mx k<|Mh c<|Kh 0 c<|Kh 0 c<|Kh 0 c<|Kh 0 c<|Kh 0 c<|Kd 0 day w0.from_ (fun d _=>Kt 0 (bo d)<|Kt 0 (bo d)<|Kt 0 (bo d)<|Mx k<|Mt (bo d)<|Kt 0 (bo d)<|Kt 0 (bo d)<|Kt 0 (bo d)<|Kh 0 c<|MV (bo d)<|My c<|Kl 2 32 (gc zi0)<|Kf 0<|f (aC day w0.to)<|by first|rfl|(rw[hj0,jV];simp only[sJ,r8,aS,ax,bS, *];first|done|rfl|(simp;done))) fun d _=>Mh (bw d)<|Mh (bw d)<|Mh (bw d)<|Mh (bw d)<|Mh (bw d)<|Mh (bw d)<|Mh (bw d)<|Mh c<|My (bw d)<|My c<|Kl 2 32 (gc zi0)<|Kf 0<|f false<|by first|rfl|(rw[hj0,jV];simp only[sJ,r8,aS,ax,bS, *];first|done|rfl|(simp;done))) fun d _=>Mh d<|Mh d<|Mh d<|Mh d<|Mh d<|Mh d<|Mh d<|Mh d<|Mh d<|Mh d<|Mh d<|My d<|Kb 6 c (fun c=>Mt c<|Mt c<|Mt c<|Mt c<|Mt c<|Mt c<|Mt c<|Mt c<|Mt c<|MV c<|Kl 2 32 (gc zi0)<|Kf 0<|f true<|by first|rfl|(rw[hj0,jV];simp only[sJ,r8,aS,ax,bS, *];first|done|rfl|(simp;done))) fun c=>Kh 0 c<|Kh 0 c<|Mx k<|Mh c<|Kh 0 c<|Kh 0 c<|Kh 0 c<|Kh 0 c<|Kh 0 c<|Kd 0 day w0.from_ (fun d _=>Kt 0 (bo d)<|Kt 0 (bo d)<|Kt 0 (bo d)<|Mx k<|Mt (bo d)<|Kt 0 (bo d)<|Kt 0 (bo d)<|Kt 0 (bo d)<|Kh 0 c<|MV (bo d)<|My c<|Kl 2 32 (gc zi0)<|Kf 0<|f (aC day w0.to)<|by first|rfl|(rw[hj0,jV];simp only[sJ,r8,aS,ax,bS, *];first|done|rfl|(simp;done))) fun d _=>Mh (bw d)<|Mh (bw d)<|Mh (bw d)<|Mh (bw d)<|Mh (bw d)<|Mh (bw d)<|Mh (bw d)<|Mh c<|My (bw d)<|My c<|Kl 2 32 (gc zi0)<|Kf 0<|f false<|by first|rfl|(rw[hj0,jV];simp only[sJ,r8,aS,ax,bS, *];first|done|rfl|(simp;done))) fun d _=>Mh d<|Mh d<|Mh d<|Mh d<|Mh d<|Mh d<|Mh d<|Mh d<|Mh d<|Mh d<|Mh d<|Mh d<|Mh d<|Mh n<|My d<|My n<|Kx 2 k<|Kh 9 d<|Mh d<|Mh d<|Mh d<|Mh d<|Mh d<|Mh d<|Mh d<|Mh d<|Mh d<|Mh d<|Mh d<|Mh d<|Mh d<|My d<|Kb 8 c (fun c=>Mt c<|Mt c<|Mt c<|Mt c<|Mt c<|Mt c<|Mt c<|Mt c<|Mt c<|MV c<|Kl 2 32 (gc zi0)<|Kf 0<|f true<|by first|rfl|(rw[hj0,jV];simp only[sJ,r8,aS,ax,bS, *];first|done|rfl|(simp;done))) fun c=>Kh 0 c<|Kh 0 c<|Mx k<|Mh c<|Kh 0 c<|Kh 0 c<|Kh 0 c<|Kh 0 c<|Kh 0 c<|Kd 0 day w0.from_ (fun d _=>Kt 0 (bo d)<|Kt 0 (bo d)<|Kt 0 (bo d)<|Mx k<|Mt (bo d)<|Kt 0 (bo d)<|Kt 0 (bo d)<|Kt 0 (bo d)<|Kh 0 c<|MV (bo d)<|My c<|Kl 2 32 (gc zi0)<|Kf 0<|f (aC day w0.to)<|by first|rfl|(rw[hj0,jV];simp only[sJ,r8,aS,ax,bS, *];first|done|rfl|(simp;done))) fun d _=>Mh (bw d)<|Mh (bw d)<|Mh (bw d)<|Mh (bw d)<|Mh (bw d)<|Mh (bw d)<|Mh (bw d)<|Mh c<|My (bw d)<|My c<|Kl 2 32 (gc zi0)<|Kf 0<|f false<|by first|rfl|(rw[hj0,jV];simp only[sJ,r8,aS,ax,bS, *];first|done|rfl|(simp;done))
theorem E6{pq:PId}{b:Int→TUnit}:∀(l:List Int)(out:List PVer),(ym gg pq b l out).length≤out.length+l.length
  |[],out=>Nat.le_add_right ..
  |[_],out=>Nat.le_add_right ..
  | a::c::r,out=>by
    have h1:=E6 (pq:=pq) (b:=b) (c::r) (dV gg pq out ⟨a,c⟩ (b a))
    have h2:=td (pq:=pq) (out:=out) (s:=⟨a,c⟩) (u:=b a)
    show(ym gg pq b (c::r) (dV gg pq out ⟨a,c⟩ (b a))).length≤_
    simp only[lC]at *;omega
theorem E7{pq:PId}{b:Int→TUnit}(hb:∀a,OkB (b a)):∀(l:List Int)(out:List PVer),vK out→vK (ym gg pq b l out)
  |[],_,h=>h
  |[_],_,h=>h
  |a::c::r,out,h=>E7 hb (c::r) _ (yF h (hb a))
theorem A9(day:Int):∀l:List PSpan,l.any (sJ day)=memB l day
  |[]=>rfl
  | s::r=>by
    rw[jV,eW,A9 day r]
    congr 1
    unfold sJ
    rw[R3,TI]
    exact(Bool.decide_and ..).symm
theorem XB(day:Int)(V:List PVer)(h:∀v,v∈V→0≤v.from_∧v.to≤1048577):(fc (V.map r8)).any (sJ day)=V.any fun v=>sJ day (r8 v):=by
  have e:(V.any fun v=>sJ day (r8 v))=memB (V.map r8) day:=by rw[←A9,List.any_map];rfl
  rw[A9,vA,e]
  cases q:memB (V.map r8) day with
  |false=>rw[tq]
  | true=>
    obtain⟨s,h1,h2,h3⟩:=iL.1 q
    obtain⟨v,v1,rfl⟩:=j9.1 h1
    obtain⟨a,b⟩:=h v v1
    have h2:v.from_≤day:=h2
    have h3:day<v.to:=h3
    rw[Bool.and_true]
    exact decide_eq_true ⟨by omega,by omega⟩
/-- The law of disjoint versions, whole. -/
theorem QC(gs:List PGaz)(pq:PId)(p:aT)(day:Int)(hf:og gs)(haw:kP 5 [] (.bool true)):kP 3 [.ls (gs.map ap),aK pq,.str p,iV day] (.bool true):=by
  have hw:=QK gs p hf
  cases hb:GR gs p with
  |false=>rw[hb]at hw;exact Yb gs pq p day haw hw
  | true=>
    rw[hb]at hw
    have ok:=(WK hf hb).1
    have hv:=E5 gs pq p ok
    obtain⟨b1,b2,r,hr⟩:=Lu gs
    have hp:(cw gs++[1048577]).Pairwise (· < ·):=List.pairwise_append.2 ⟨b1,List.pairwise_singleton ..,fun a ha c hc=>by rw[mr.1 hc];exact(b2 a ha).2⟩
    have hI:VerI gg (jf gs pq p) 1048577:=by
      have z:=OA (eq:=gg) (id:=pq) (b:=fun a=>dB a p gs) (r++[1048577]) 0 [] (by rw[←tz,←hr];exact hp) (Int.le_refl _) ⟨fun i hi=>absurd hi (oX _),fun i hi=>absurd hi (oX _)⟩
      rw[GZ,←tz,←hr]at z
      exact z
    have hF:vK (jf gs pq p):=E7 (fun a=>ok.okB a p) _ _ fun v hv=>by cases hv
    have hl:(jf gs pq p).length<2^22:=by
      have z:=E6 (pq:=pq) (b:=fun a=>dB a p gs) (cw gs++[1048577]) []
      have z2:=AM gs
      rw[lA]at z
      simp only[lC,lN]at z
      exact mp z (by omega)
    generalize jf gs pq p=V at *
    have hat:∀v,v∈V→0≤v.from_∧v.from_<v.to∧v.to≤1048577:=fun v hm=>by
      obtain⟨i,hi,e⟩:=BC hm
      obtain⟨q1,q2,q3,_⟩:=hI.ok i hi
      have e2:gD V i=v:=by rw[←e];simp[gD,List.getD,lx hi]
      rw[e2]at q1 q2 q3
      exact⟨q1,q2,q3⟩
    have hn:=(jT (V.map r8)).len
    have hh:=QE (fc (V.map r8)) day (by omega)
    rw[XB day V fun v hm=>⟨(hat v hm).1,(hat v hm).2.2⟩]at hh
    refine Yc gs pq p day V _ haw hw hv (Ur gs pq p V hv hl) hh (fun a b ha hb=>XP (hF a ha).1 (hF b hb).1 (hF a ha).2 (hF b hb).2) hl (fun v hm=>?_) fun i w e hi h0=>?_
    · obtain⟨q1,q2,q3⟩:=hat v hm
      exact⟨kw q1,kj q2,kw q3⟩
    · obtain⟨q1,q2⟩:=hI.up (i-1) (by omega)
      rw[Nat.sub_add_cancel h0,←e]at q1 q2
      exact⟨kw q1,q2⟩
end Go.Proofs.YtjokefckffbpeaaGreatDoor
