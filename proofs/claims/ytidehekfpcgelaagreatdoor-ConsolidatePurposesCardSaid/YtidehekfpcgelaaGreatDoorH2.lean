/- Functions walked: what each of them answers, for the law of purposes: part 2. Conditions: those that each theorem names. -/
import Derived.Test.YtidehekfpcgelaaGreatDoorH1
namespace Go.Proofs.YtidehekfpcgelaaGreatDoor
open Go Go.Ev
theorem kH (u:TUnit) (s:PStep):kP 260 [eU u,az s] (.bool (bi s u)):=by
  have rr0 b' (h:(bi s u)=b':=by (simp only [bi,bW,aS,ax,bS, *];first | done | rfl)):=h;exact bB Tryz.func260<|Kb 8 (ab u.kind s.kind) (fun a=>Kt 0 a<|Kt 0 a<|Kt 0 a<|Kt 0 a<|Ku 0 a<|Kf 0<|ce<|rr0<|dg u.label s.label) fun a=>Mh a<|Mh a<|Mh a<|Mh a<|My a<|Ky 0<|rr0 false
noncomputable abbrev jy (p:List PStep):AObj:= .row 1 false 0 [.ls (p.map az)]
noncomputable abbrev DG (ep n:Nat):AObj:= .row 1 false 0 [.slice 2 ep 0 n none]
noncomputable abbrev AF (ep:Nat) (l:List TUnit):AObj:= .row 8 true ep (l.map aV)
noncomputable abbrev LF:AObj:= .row 1 false 0 [.nils]
theorem CJ (s:PStep) (rs:List PStep) (u:TUnit) (h:By (bi s u) false):kD 259 [eU u, .ptr 0 0 0 0, .ptr 1 0 0 0] (ay [jy (s::rs),LF]) (.tuple []) (ay [jy (s::rs),LF]):=by
  have h':bi s u=false:=h
  exact gQ Tryz.func259 fun a=>Kp 4 (kH u s)<|Mh h'<|M1 (.frz 2 []) (cp rt rt ti)<|Mf a
theorem Iw (s:PStep) (rs:List PStep) (u:TUnit) (h:By (bi s u) true):kD 259 [eU u, .ptr 0 0 0 0, .ptr 1 0 0 0] (ay [jy (s::rs),LF]) (.tuple []) (ay [jy (s::rs),DG 0 1,AF 0 [u]]):=by
  have h':bi s u=true:=h
  exact Re Tryz.func259<|Kp 4 (kH u s)<|Mt h'<|Mg 7<|M0 (.ren [0,1,3,2] [] [])<|M1 (.frz 3 []) (kx rt rt rt ti)<|Mf<|et (aU<|ca []) (by (simp only [AF,ee,vn,aA];rfl):(ay [AObj.row 1 false 0 [AV.ls ((s::rs).map az)],AObj.row 1 false 0 [AV.slice 2 0 0 1 none],AObj.row 8 true 0 [AV.agg [iV u.act,iV u.item,iV u.n,iV u.kind,AV.str u.label,AV.ls (u.head.map aQ),AV.ls (u.words.map aQ),AV.ls (u.kids.map aV)]]])=(ay [jy (s::rs),DG 0 1,AF 0 [u]]))
theorem L9 (s:PStep) (rs:List PStep) (u:TUnit) (ep n:Nat) (l:List TUnit) (h:By (bi s u) false):kD 259 [eU u, .ptr 0 0 0 0, .ptr 1 0 0 0] (ay [jy (s::rs),DG ep n,AF ep l]) (.tuple []) (ay [jy (s::rs),DG ep n,AF ep l]):=by
  have h':bi s u=false:=h
  exact gQ Tryz.func259 fun a=>Kp 4 (kH u s)<|Mh h'<|M1 (.frz 3 []) (kx (tR 8 true ep 3<|aW gO l) rt rt ti)<|Mf a
theorem MZ (s:PStep) (rs:List PStep) (u:TUnit) (ep n:Nat) (l:List TUnit) (h:By (bi s u) true) (hn:n=l.length) (hl:l.length<2 ^ 30):kD 259 [eU u, .ptr 0 0 0 0, .ptr 1 0 0 0] (ay [jy (s::rs),DG ep n,AF ep l]) (.tuple []) (ay [jy (s::rs),DG (ep+1) (n+1),AF (ep+1) (l++ [u])]):=by
  have h':bi s u=true:=h
  let q:= [iV 0,iV 0,iV 0,iV 0,aj [],aa,aa,aa];let q1:=List.map aV l++ [ak q];exact gQ Tryz.func259 fun a=>Kp 4 (kH u s)<|Mt h'<|Mg 3<|Mw (.apx q1<|.rix<|.rst (ak q) ((l++ [u]).map aV)<|.go 0<|.frz 3 [] .fin)<|VC rt (iJ (tR 8 true ep 4<|aW gO l) rt) (et (lL _ _:([ak q]:List AV)≠ []) rt) (et (cp (aU ep) (sA:n=(l.map aV).length) (by (refine ao (m:=2 ^ 31) ?_ ?_ ?_ <;> (try simp only [lC,lN]) <;> omega):small (n+([AV.agg [iV 0,iV 0,iV 0,iV 0,AV.str [],AV.nils,AV.nils,AV.nils]]).length) 120=true))<|aU q1) (et (aU<|ep+1) (oA:n<n+1)) rt (iJ (tR 8 true (ep+1) 4 (by exact Ur _ rfl:aq q1=0)) rt) (cp (aU<|ep+1) (O0 (f:=aV) (l:=l) (z:=ak q) (oA:n=(l).length))<|OJ (f:=aV) (g:=Go.Ev.eU) aA (l:=l) (z:=ak q) (w:=u) (oA:n=(l).length)) (kx (tR 8 true (ep+1) 3<|aW gO<|l++ [u]) rt rt ti) a
theorem Gp (s:PStep) (rs:List PStep) : ∀ (u:TUnit),∀ (ep n:Nat) (l:List TUnit),n=l.length→l.length+nU u<2 ^ 30→kC 258 [eU u, .func (.func 259) [] [.ptr 0 0 0 0, .ptr 1 0 0 0]] (ay [jy (s::rs),DG ep n,AF ep l])
    (fun v h=>∃ y:Nat × Nat × List TUnit,(y.2.1=y.2.2.length∧y.2.2=l++lQ s u)∧v = .tuple []∧h=ay [jy (s::rs),DG y.1 y.2.1,AF y.1 y.2.2]):=by
  refine TUnit.ind fun u ih ep n l hn hl=>?_
  have hq:=iT u
  have hkl:=bK u
  have hp:=yt s u
  rcases Bool.eq_false_or_eq_true (bi s u) with hc | hc
  · rw [hc] at hp
    exact pN Tryz.func258 fun a=>K1 2 (.frz 3 [1,2,6,7]) (kx (tR 8 true ep 3<|aW gO l) rt rt ti)<|Me (MZ s rs u ep n l hc hn oA)<|Kl 2 11 (ln aV u.kids)<|Mg 0<|Nf aV u.kids (ep+1) (n+1) (l++ [u]) [1,10,11,12] (fun a _ b c d=>([bU (bY 259) [] [aR 0 0 0 0,aR 1 0 0 0],aX<|u.kids.map aV,nV u.kids.length,nV a],[aZ 1 false 0 [aX<|(s::rs).map az],aZ 1 false 0 [aH 2 b 0 c none],aZ 8 true b<|d.map aV])) (fun a _ b c=>b=c.length∧c++dV s a=l++ [u]++dV s u.kids∧c.length+dT a<2 ^ 30) gR (fun _ _ b c d _ _ _ e _=>Kh 0 e<|Mf<|a (b,c,d)<|by grind [mC]) fun a _ b c d e f g i j k m _ o _=>have o:=(o).trans<|congrArg some<|aA g;have :=cW (J:=fun a b=>b.2.1=b.2.2.length∧b.2.2++dV s a=l++ [u]++dV s u.kids∧b.2.2.length+dT a<2 ^ 30) (a:=(b,c,d)) k f;have e:=ar e k;have f:d.length+nU g<2 ^ 30:=(by grind [bc]);Kt 0 m<|Mx o<|K1 4 (.frz 3 [1,10,11,12,16,17]) (kx (tR 8 true b 3<|aW gO d) rt rt ti)<|Mq (ih g e b c d oA f) fun b _=>Kl 0 19 (dj a)<|Kf 0<|j b.1 b.2.1 b.2.2<|by grind [bc, gm, mU]
  · rw [hc] at hp
    exact pN Tryz.func258 fun a=>K1 2 (.frz 3 [1,2,6,7]) (kx (tR 8 true ep 3<|aW gO l) rt rt ti)<|Me (L9 s rs u ep n l hc)<|Kl 2 11 (ln aV u.kids)<|Mg 0<|Nf aV u.kids ep n l [1,10,11,12] (fun a _ b c d=>([bU (bY 259) [] [aR 0 0 0 0,aR 1 0 0 0],aX<|u.kids.map aV,nV u.kids.length,nV a],[aZ 1 false 0 [aX<|(s::rs).map az],aZ 1 false 0 [aH 2 b 0 c none],aZ 8 true b<|d.map aV])) (fun a _ b c=>b=c.length∧c++dV s a=l++dV s u.kids∧c.length+dT a<2 ^ 30) gR (fun _ _ b c d _ _ _ e _=>Kh 0 e<|Mf<|a (b,c,d)<|by grind [mC]) fun a _ b c d e f g i j k m _ o _=>have o:=(o).trans<|congrArg some<|aA g;have :=cW (J:=fun a b=>b.2.1=b.2.2.length∧b.2.2++dV s a=l++dV s u.kids∧b.2.2.length+dT a<2 ^ 30) (a:=(b,c,d)) k f;have e:=ar e k;have f:d.length+nU g<2 ^ 30:=(by grind [bc]);Kt 0 m<|Mx o<|K1 4 (.frz 3 [1,10,11,12,16,17]) (kx (tR 8 true b 3<|aW gO d) rt rt ti)<|Mq (ih g e b c d oA f) fun b _=>Kl 0 19 (dj a)<|Kf 0<|j b.1 b.2.1 b.2.2<|by grind [bc, gm, mU]
theorem Gr (s:PStep) (rs:List PStep) : ∀ (u:TUnit),nU u≤2 ^ 20→By (lQ s u).isEmpty true→kD 258 [eU u, .func (.func 259) [] [.ptr 0 0 0 0, .ptr 1 0 0 0]] (ay [jy (s::rs),LF]) (.tuple []) (ay [jy (s::rs),LF]):=by
  refine TUnit.ind fun u ih hn he=>?_
  have hkl:=bK u
  have hp:=yt s u
  have he':=List.isEmpty_iff.1 (show (lQ s u).isEmpty=true from he)
  rw [he'] at hp
  rcases Bool.eq_false_or_eq_true (bi s u) with hc | hc
  · grind
  · rw [hc] at hp
    have hp:dV s u.kids = []:=hp.symm
    exact gQ Tryz.func258 fun a=>K1 2 (.frz 2 [1,2,6,7]) (cp rt rt ti)<|Me (CJ s rs u hc)<|Kl 2 11 (ln aV u.kids)<|Mg 0<|rf aV u.kids [1,10,11,12] (fun a _=>([bU (bY 259) [] [aR 0 0 0 0,aR 1 0 0 0],aX<|u.kids.map aV,nV u.kids.length,nV a],[aZ 1 false 0 [aX<|(s::rs).map az],aZ 1 false 0 [aa]])) (fun a=>dV s a= []) oA (fun _ _ _ _ _ b _=>Kh 0 b<|Mf a) fun a _ b _ c d e f g _ h i=>have h:=h.trans<|congrArg some<|aA c;have j:=ar b f;have b:=bH (pA<|gw<|ar b f) hn;have f:(lQ s c).isEmpty=true:=(by rw [gm] at i;rw [(List.append_eq_nil_iff.1 i).1];rfl);Kt 0 g<|Mx h<|K1 4 (.frz 2 [1,10,11,12,16,17]) (cp rt rt ti)<|Me (ih c j b f)<|Kl 0 19 (dj a)<|Kf 0<|e<|by grind [gm]
theorem Qc (s:PStep) (rs:List PStep) : ∀ (u:TUnit),nU u≤2 ^ 20→By (lQ s u).isEmpty false→kC 258 [eU u, .func (.func 259) [] [.ptr 0 0 0 0, .ptr 1 0 0 0]] (ay [jy (s::rs),LF])
    (fun v h=>∃ y:Nat × Nat × List TUnit,(y.2.1=y.2.2.length∧y.2.2=lQ s u)∧v = .tuple []∧h=ay [jy (s::rs),DG y.1 y.2.1,AF y.1 y.2.2]):=by
  refine TUnit.ind fun u ih hn he=>?_
  have hq:=iT u
  have hkl:=bK u
  have hp:=yt s u
  rcases Bool.eq_false_or_eq_true (bi s u) with hc | hc
  · rw [hc] at hp
    exact pN Tryz.func258 fun a=>K1 2 (.frz 2 [1,2,6,7]) (cp rt rt ti)<|Me (Iw s rs u hc)<|Kl 2 11 (ln aV u.kids)<|Mg 0<|Nf aV u.kids (0:Nat) (1:Nat) ([u]:List TUnit) [1,10,11,12] (fun a _ b c d=>([bU (bY 259) [] [aR 0 0 0 0,aR 1 0 0 0],aX<|u.kids.map aV,nV u.kids.length,nV a],[aZ 1 false 0 [aX<|(s::rs).map az],aZ 1 false 0 [aH 2 b 0 c none],aZ 8 true b<|d.map aV])) (fun a _ b c=>b=c.length∧c++dV s a= [u]++dV s u.kids∧c.length+dT a<2 ^ 30) gR (fun _ _ b c d _ _ _ e _=>Kh 0 e<|Mf<|a (b,c,d)<|by grind [mC]) fun a _ b c d e f g i j k l _ m _=>have m:=(m).trans<|congrArg some<|aA g;have :=cW (J:=fun a b=>b.2.1=b.2.2.length∧b.2.2++dV s a= [u]++dV s u.kids∧b.2.2.length+dT a<2 ^ 30) (a:=(b,c,d)) k f;have :=ar e k;have e:d.length+nU g<2 ^ 30:=(by grind [bc]);Kt 0 l<|Mx m<|K1 4 (.frz 3 [1,10,11,12,16,17]) (kx (tR 8 true b 3<|aW gO d) rt rt ti)<|Mq (Gp s rs g b c d oA e) fun b _=>Kl 0 19 (dj a)<|Kf 0<|j b.1 b.2.1 b.2.2<|by grind [bc, gm, mU]
  · rw [hc] at hp
    have hne:dV s u.kids≠ []:=fun e=>by
      simp_all
    exact pN Tryz.func258 fun a=>K1 2 (.frz 2 [1,2,6,7]) (cp rt rt ti)<|Me (CJ s rs u hc)<|Kl 2 11 (ln aV u.kids)<|Mg 0<|jG Nat Nat (List TUnit) aV u.kids [1,10,11,12] (fun a _=>([bU (bY 259) [] [aR 0 0 0 0,aR 1 0 0 0],aX<|u.kids.map aV,nV u.kids.length,nV a],[aZ 1 false 0 [aX<|(s::rs).map az],aZ 1 false 0 [aa]])) (fun a _ b c d=>([bU (bY 259) [] [aR 0 0 0 0,aR 1 0 0 0],aX<|u.kids.map aV,nV u.kids.length,nV a],[aZ 1 false 0 [aX<|(s::rs).map az],aZ 1 false 0 [aH 2 b 0 c none],aZ 8 true b<|d.map aV])) (fun a=>a≠[]∧dV s a=dV s u.kids) (fun a _ b c=>b=c.length∧c++dV s a=dV s u.kids∧c.length+dT a<2 ^ 30) (by (exact ⟨Js rfl hne,rfl⟩)) (fun _ _ _ _ _ _ _=>Mw .abs (sA:False)) (fun a _ b c d f g i j k _ l _=>have l:=(l).trans<|congrArg some<|aA d;have :=cW (J:=fun a _=>a≠[]∧dV s a=dV s u.kids) (a:=()) j c;have c:=ar b j;have m:=bH (pA<|gw<|ar b j) hn;have :nU d+dT f≤2 ^ 20:=(by have z:=oB b j;omega);Kt 0 k<|Mx l<|K1 4 (.frz 2 [1,10,11,12,16,17]) (cp rt rt ti)<|Ms (lQ s d).isEmpty (fun b=>Me (Gr s rs d m b)<|Kl 0 19 (dj a)<|Kf 0<|g<|by (have e:dV s f=dV s u.kids:=(by grind [gm]);exact ⟨Js e hne,e⟩)) fun b=>Mq (ih d c m b) fun b _=>Kl 0 19 (dj a)<|Kf 0<|i b.1 b.2.1 b.2.2<|by grind [gm, mU]) (fun _ _ b c d _ _ _ f g=>Kh 0 f<|Mf<|a (b,c,d)<|by (refine ⟨g.1,?_⟩;have:=g.2.1;rw [mC,dB] at this;simp_all)) fun a _ b c d f g i j _ k l m _ n _=>have n:=(n).trans<|congrArg some<|aA i;have :=cW (J:=fun a b=>b.2.1=b.2.2.length∧b.2.2++dV s a=dV s u.kids∧b.2.2.length+dT a<2 ^ 30) (a:=(b,c,d)) l g;have :=ar f l;have :=bH (pA<|gw<|ar f l) hn;have :nU i+dT j≤2 ^ 20:=(by have z:=oB f l;omega);Kt 0 m<|Mx n<|K1 4 (.frz 3 [1,10,11,12,16,17]) (kx (tR 8 true b 3<|aW gO d) rt rt ti)<|Mq (Gp s rs i b c d oA<|by grind [bc]) fun b _=>Kl 0 19 (dj a)<|Kf 0<|k b.1 b.2.1 b.2.2<|by grind [gm, mU]
theorem Tq (u:TUnit) (hb:kf []=true):kP 182 [eU u, .ls (([]:List PStep).map az)] (.ls ((dP u []).map aV)):=by
  have hv:=ug [] (by simp) (fun s h=>by grind)
  rw [F8 hb]
  have rr0 b' (h:(List.map aV [u])=b':=by (rw [ee,aA];rfl)):=h;let q:= [ak [iV u.act,iV u.item,iV u.n,iV u.kind,aj u.label,aX (u.head.map aQ),aX (u.words.map aQ),aX (u.kids.map aV)]];exact bB Tryz.func182<|Kp 3 hv<|Kf 10 (Le.lsp (rr0 q)<|by rfl:Le _ (AV.ps q true))
def GZ (u:TUnit) (s:PStep) (rs:List PStep) (z1000:List TUnit):Prop:=dP u (s::rs)=gk rs z1000∧dT z1000≤2 ^ 22
noncomputable def GQ (u:TUnit) (s:PStep) (rs:List PStep) (z1000:List TUnit):List AV × List AObj:=([AV.ptr 0 0 0 0,AV.ptr 1 0 0 0], [AObj.row 1 false 0 [AV.ls ((s::rs).map az)],AObj.row 1 false 0 [AV.ls (z1000.map aV)]])
theorem P5 (u:TUnit) (s:PStep) (rs:List PStep) (hn:nU u≤2 ^ 11) (hl:(s::rs).length<2 ^ 40) (hs : ∀ x,x∈s::rs→x.label.length≤2 ^ 39):kP 182 [eU u, .ls ((s::rs).map az)] (.ls ((dP u (s::rs)).map aV)):=by
  have hv:=ug (s::rs) hl hs
  have hk:=HQ s
  have hpb:=Fw s u fun x hx=>dH hx
  have hpm:nU u * nU u≤2 ^ 11 * 2 ^ 11:=Nat.mul_le_mul hn hn
  have hd:((s::rs).drop 1).length=rs.length:=rfl
  have rr0 b' (h:((dP u (s::rs)).map aV)=b':=by first | rfl | (rw [Ij ‹_›];rfl) | (rw [hj0.1,Hg])):=h;exact bB Tryz.func182<|Kp 3 hv<|Kn 0 (kf<|s::rs) (fun _=>Kf 0 (Le.lsn<|rr0 []:Le _ (aa))) fun _=>Mg 0<|Mj (List TUnit) [3,5] (GQ u s rs) (GZ u s rs) (fun a=>Kl 1 21 (ln az<|s::rs)<|Kp 5 hk<|Kb 0 (ab s.kind 0 && dg s.label []) (fun _=>Kl 1 31 (Le.lsp (t:=true) (Eq.symm<|SC (f:=aV) (g:=Go.Ev.eU) (ws:=[u]) aA) (aU 0:aq ([ak [iV u.act,iV u.item,iV u.n,iV u.kind,aj u.label,aX (u.head.map aQ),aX (u.words.map aQ),aX (u.kids.map aV)]])=0))<|Mg 0<|M0 (.ren [1,2,0] [] [3,5])<|M1 (.frz 2 [3,5]) (cp rt rt ti)<|Mf<|a [u] (by exact ⟨F9 (by omega) (by assumption),by grind [bc, l8]⟩:dP u (s::rs)=gk rs [u]∧dT [u]≤2 ^ 22)) fun _=>Mg 1<|M0 (.ren [1,2,0] [] [3,5,16,17])<|M1 (.frz 2 [3,5,16,17]) (cp rt rt ti)<|Ms (lQ s u).isEmpty (fun b=>Me (Gr s rs u oA b)<|M1 (.obw 1<|aX []) (U4 bA rfl rfl)<|Mf<|a [] (by exact ⟨by rw [ww (by omega) (by assumption),List.isEmpty_iff.1 b],by grind⟩:dP u (s::rs)=gk rs []∧dT []≤2 ^ 22)) fun b=>Mq (Qc s rs u oA b) fun b c=>M2 (.fzo 1 2 [3,5]<|b.2.2.map aV) (cp rt rt ti) (cp (aU b.1) (tA aV b.2.2 b.2.1 (oA:(b.2.2).length=b.2.1))<|aW gO b.2.2)<|Mf<|a b.2.2 (by exact ⟨by rw [ww (by omega) (by assumption),c.2],by grind⟩:dP u (s::rs)=gk rs b.2.2∧dT b.2.2≤2 ^ 22)) fun a b=>have :dP u (s::rs)=gk rs a∧dT a≤2 ^ 22:=b;K1 0 (.slp<|((s::rs).drop 1).map az) (cp (hM 2 az (s::rs) fun _=>rfl) (et (sA:1≤((s::rs).map az).length) (oA:((s::rs).map az).length≤((s::rs).map az).length))<|We (f:=az) (l:=s::rs) (k:=1))<|Kl 0 34 (ln az<|List.drop 1<|s::rs)<|Mg 0<|M0 (.ren [1,0] [] [5,33,34,35])<|M1 (.frz 1 [5,33,34,35]) (et rt ti)<|Nv az (List.drop 1<|s::rs) a [5,33,34,35] (fun a _ b=>([aR 0 0 0 0,aX<|((s::rs).drop 1).map az,nV ((s::rs).drop 1).length,nV a],[aZ 1 false 0 [aX<|b.map aV]])) (fun a b=>dP u (s::rs)=gk a b∧dT b≤2 ^ 22) sA (fun _ _ a _ _ _ b hj0=>Kh 0 b<|Kf 1<|b9<|rr0<|a.map aV) fun a _ b _ _ c d e _ f _ g hj0=>have :b.length≤dT b:=xf _;Kt 0 f<|Mx g<|Kl 5 40 (ln aV b)<|Mg 0<|jG Nat Nat (List TUnit) aV b [5,7,8,33,34,35,39,40,41] (fun d _=>([aR 0 0 0 0,aR 1 0 0 0,aa,aX<|((s::rs).drop 1).map az,nV ((s::rs).drop 1).length,nV a,aX<|b.map aV,nV b.length,nV d],[aZ 1 false 0 [aX<|b.map aV],aZ 2 false 0 [ak [iV c.kind,aj c.label]]])) (fun d _ e f g=>([aR 0 0 0 0,aR 1 0 0 0,aH 2 e 0 f none,aX<|((s::rs).drop 1).map az,nV ((s::rs).drop 1).length,nV a,aX<|b.map aV,nV b.length,nV d],[aZ 1 false 0 [aX<|b.map aV],aZ 2 false 0 [ak [iV c.kind,aj c.label]],aZ 8 true e<|g.map aV])) (fun a=>cn c a=cn c b) (fun a _ d e=>d=e.length∧e++cn c a=cn c b∧e.length+dT a<2 ^ 30) (by rfl) (fun _ _ _ _ _ b c=>Kh 0 b<|Kl 0 61 bA<|Kl 1 62 (dj a)<|K1 0 (.frz 1 [5,33,34,35]) (et rt ti)<|Mf<|e []<|by exact fA hj0 c) (fun d _ e f g i j k l n _ o _=>have p:=(o).trans<|congrArg some<|aA g;have :=cW (J:=fun a _=>cn c a=cn c b) (a:=()) l f;have :nU g+dT i≤dT b:=oB e l;have :g.kids.length<nU g:=bK g;have :nU g=1+dT g.kids:=iT g;Kt 0 n<|Mx p<|Kl 5 47 (ln aV g.kids)<|K1 0 (.frz 2 [5,7,8,33,34,35,39,40,41,46,47,48]) (cp rt rt ti)<|jG Nat Nat (List TUnit) aV g.kids [5,7,8,33,34,35,39,40,41,46,47,48] (fun e _=>([aR 0 0 0 0,aR 1 0 0 0,aa,aX<|((s::rs).drop 1).map az,nV ((s::rs).drop 1).length,nV a,aX<|b.map aV,nV b.length,nV d,aX<|g.kids.map aV,nV g.kids.length,nV e],[aZ 1 false 0 [aX<|b.map aV],aZ 2 false 0 [ak [iV c.kind,aj c.label]]])) (fun e _ f i j=>([aR 0 0 0 0,aR 1 0 0 0,aH 2 f 0 i none,aX<|((s::rs).drop 1).map az,nV ((s::rs).drop 1).length,nV a,aX<|b.map aV,nV b.length,nV d,aX<|g.kids.map aV,nV g.kids.length,nV e],[aZ 1 false 0 [aX<|b.map aV],aZ 2 false 0 [ak [iV c.kind,aj c.label]],aZ 8 true f<|j.map aV])) (fun a=>List.filter (bi c) a++cn c i=cn c b) (fun a _ d e=>d=e.length∧e++(List.filter (bi c) a++cn c i)=cn c b∧e.length+(dT a+dT i)<2 ^ 30) (by simp_all [gA]) (fun _ _ _ _ _ a _=>Kh 0 a<|Kl 0 60 (dj d)<|Kf 0<|j sA) (fun a _ d e f j k l n p _ o _=>have o:=(o).trans<|congrArg some<|aA f;have :=cW (J:=fun a _=>List.filter (bi c) a++cn c i=cn c b) (a:=()) n e;have :nU f+dT j≤dT g.kids:=oB d n;Kt 0 p<|Mx o<|Kp 4 (kH f c)<|Mb (bi c f) (fun _=>K1 3 (.obj 3<|aZ 8 true 0<|List.map aV [f]) (congrArg (aZ 8 true 0)<|SC (f:=aV) (g:=Go.Ev.eU) (ws:=[f]) aA)<|Kl 1 59 (dj a)<|K1 0 (.ren [0,1,3,2] [3] [5,7,8,33,34,35,39,40,41,46,47,48]) (tS 8 true 0<|aW gO [f])<|M1 (.frz 3 [5,7,8,33,34,35,39,40,41,46,47,48]) (kx (tR 8 true 0 3<|aW gO [f]) rt rt ti)<|Mf<|l 0 1 [f] gR) fun _=>Kl 0 59 (dj a)<|K1 0 (.frz 2 [5,7,8,33,34,35,39,40,41,46,47,48]) (cp rt rt ti)<|Mf<|k sA) (fun _ _ a e f _ _ _ g _=>Kh 0 g<|Kl 0 60 (dj d)<|Kf 0<|k a e f gR) fun a _ d e f j k l n _ p q r _ o _=>have o:=(o).trans<|congrArg some<|aA l;have k:=cW (J:=fun a d=>d.2.1=d.2.2.length∧d.2.2++(List.filter (bi c) a++cn c i)=cn c b∧d.2.2.length+(dT a+dT i)<2 ^ 30) (a:=(d,e,f)) q k;have :nU l+dT n≤dT g.kids:=oB j q;Kt 0 r<|Mx o<|Kp 4 (kH l c)<|Mb (bi c l) (fun _=>K1 2 .app (cp (aU d) (sA:e=(f.map aV).length) (by (refine ao (m:=2 ^ 31) ?_ ?_ ?_ <;> omega):small (e+1) 120=true))<|M1 (.obj 2<|aZ 8 true (d+1)<|(f++ [l]).map aV) (congrArg (aZ 8 true<|d+1)<|xh (f:=aV) (g:=Go.Ev.eU) (l:=f) (ws:=[l]) aA)<|Kl 1 59 (dj a)<|K1 0 (.frz 3 [5,7,8,33,34,35,39,40,41,46,47,48]) (kx (tR 8 true (d+1) 3<|aW gO<|f++ [l]) rt rt ti)<|Mf<|p (d+1) (e+1) (f++ [l])<|by exact Yc k (by omega)) fun _=>Kl 0 59 (dj a)<|K1 0 (.frz 3 [5,7,8,33,34,35,39,40,41,46,47,48]) (kx (tR 8 true d 3<|aW gO f) rt rt ti)<|Mf<|p d e f<|by exact Yd k (by omega)) (fun _ _ b c f _ _ _ g i=>let j:=List.map aV f;Kh 0 g<|Mg 0<|M2 (.fsl 2 [5,33,34,35] 61 j) (cp rt rt ti) (cp (aU b) (tA aV f c (oA:(f).length=c))<|aW gO f)<|Ml 61 (fx j false<|aW gO f)<|Kl 1 62 (dj a)<|K1 0 (.frz 1 [5,33,34,35]) (et rt ti)<|Mf<|e f<|by exact fB hj0 i.2.1) fun d _ e f g i j k l _ n o p _ q _=>have r:=(q).trans<|congrArg some<|aA k;have j:=cW (J:=fun a d=>d.2.1=d.2.2.length∧d.2.2++cn c a=cn c b∧d.2.2.length+dT a<2 ^ 30) (a:=(e,f,g)) o j;have :nU k+dT l≤dT b:=oB i o;have :k.kids.length<nU k:=bK k;have :nU k=1+dT k.kids:=iT k;Kt 0 p<|Mx r<|Kl 5 47 (ln aV k.kids)<|K1 0 (.frz 3 [5,7,8,33,34,35,39,40,41,46,47,48]) (kx (tR 8 true e 3<|aW gO g) rt rt ti)<|Nf aV k.kids e f g [5,7,8,33,34,35,39,40,41,46,47,48] (fun e _ f g i=>([aR 0 0 0 0,aR 1 0 0 0,aH 2 f 0 g none,aX<|((s::rs).drop 1).map az,nV ((s::rs).drop 1).length,nV a,aX<|b.map aV,nV b.length,nV d,aX<|k.kids.map aV,nV k.kids.length,nV e],[aZ 1 false 0 [aX<|b.map aV],aZ 2 false 0 [ak [iV c.kind,aj c.label]],aZ 8 true f<|i.map aV])) (fun a _ d e=>d=e.length∧e++(List.filter (bi c) a++cn c l)=cn c b∧e.length+(dT a+dT l)<2 ^ 30) (by (exact gB j)) (fun _ _ a e f _ _ _ g _=>Kh 0 g<|Kl 0 60 (dj d)<|Kf 0<|n a e f gR) fun a _ d e f g i j n o p r _ q _=>have q:=(q).trans<|congrArg some<|aA j;have i:=cW (J:=fun a d=>d.2.1=d.2.2.length∧d.2.2++(List.filter (bi c) a++cn c l)=cn c b∧d.2.2.length+(dT a+dT l)<2 ^ 30) (a:=(d,e,f)) p i;have :nU j+dT n≤dT k.kids:=oB g p;Kt 0 r<|Mx q<|Kp 4 (kH j c)<|Mb (bi c j) (fun _=>K1 2 .app (cp (aU d) (sA:e=(f.map aV).length) (by (refine ao (m:=2 ^ 31) ?_ ?_ ?_ <;> omega):small (e+1) 120=true))<|M1 (.obj 2<|aZ 8 true (d+1)<|(f++ [j]).map aV) (congrArg (aZ 8 true<|d+1)<|xh (f:=aV) (g:=Go.Ev.eU) (l:=f) (ws:=[j]) aA)<|Kl 1 59 (dj a)<|K1 0 (.frz 3 [5,7,8,33,34,35,39,40,41,46,47,48]) (kx (tR 8 true (d+1) 3<|aW gO<|f++ [j]) rt rt ti)<|Mf<|o (d+1) (e+1) (f++ [j])<|by exact Yc i (by omega)) fun _=>Kl 0 59 (dj a)<|K1 0 (.frz 3 [5,7,8,33,34,35,39,40,41,46,47,48]) (kx (tR 8 true d 3<|aW gO f) rt rt ti)<|Mf<|o d e f<|by exact Yd i (by omega)
theorem TU (u:TUnit) (p:List PStep) (hn:nU u≤2 ^ 11) (hl:p.length<2 ^ 40) (hs : ∀ x,x∈p→x.label.length≤2 ^ 39):kP 182 [eU u, .ls (p.map az)] (.ls ((dP u p).map aV)):=by
  cases p with
  | nil=>exact Tq u rfl
  | cons s rs=>grind [P5]
theorem MY (u:TUnit) (p:List PStep) (L:List TUnit) (hf:kP 182 [eU u, .ls (p.map az)] (.ls (L.map aV))) (hL:L.length≤2 ^ 22):kP 85 [eU u, .ls (p.map az)] (.ls ((L.map ae).map aJ)):=by
  have rr0 b' (h:((L.map ae).map aJ)=b':=by first | rfl | (rw [← hj0];rfl) | (rw [← hj0.2.2.1];simp)):=h;exact bB Tryz.func85<|Kp 4 hf<|Kl 0 11 (ln aV L)<|K1 0 (.frz 0 [5,10,11,12]) ti<|jG Nat Nat (List PId) aV L [5,10,11,12] (fun a _=>([aa,aX<|L.map aV,nV L.length,nV a],[])) (fun a _ b c d=>([aH 0 b 0 c none,aX<|L.map aV,nV L.length,nV a],[aZ 3 true b<|d.map aJ])) (fun a=>a=L) (fun a _ b c=>b=c.length∧(0:Nat)<c.length∧c++List.map ae a=List.map ae L∧c.length+a.length=L.length) (by rfl) (fun _ _ _ _ _ a hj0=>Kh 0 a<|Kf 1 (Le.lsn<|rr0 []:Le _ (aa))) (fun a _ _ b c d _ e f g _ i _=>have i:=(i).trans<|congrArg some<|aA c;have hj0:=cW (J:=fun a _=>a=L) (a:=()) f b;Kt 0 g<|Mx i<|Kl 9 21 (iK a)<|Mg 0<|M0 (.ren [1,0] [] [5,10,11,12])<|M1 (.frz 1 [5,10,11,12]) (et rt ti)<|Mf<|e 0 1 [PId.mk c.act c.item c.n]<|by (refine ⟨rfl,by simp,?_,?_⟩ <;> (rw [← hj0]) <;> (first | rfl | grind))) (fun _ _ a b c _ _ _ d hj0=>Kh 0 d<|Mg 1<|M2 (.fsl 0 [] 4<|c.map aJ) ti (cp (aU a) (tA aJ c b (oA:(c).length=b))<|aW zL c)<|Ml 4 (fx (c.map aJ) false<|aW zL c)<|Mf<|b9<|rr0<|c.map aJ) fun a _ b c d _ e f g _ i j k _ l _=>have l:=(l).trans<|congrArg some<|aA f;have hj0:=cW (J:=fun a b=>b.2.1=b.2.2.length∧(0:Nat)<b.2.2.length∧b.2.2++List.map ae a=List.map ae L∧b.2.2.length+a.length=L.length) (a:=(b,c,d)) j e;Kt 0 k<|Mx l<|K1 6 .app (cp (aU b) (sA:c=(d.map aJ).length) (by (refine ao (m:=2 ^ 25) ?_ ?_ ?_ <;> omega):small (c+1) 24=true))<|M1 (.obj 0<|aZ 3 true (b+1)<|(d++ [PId.mk f.act f.item f.n]).map aJ) (congrArg (aZ 3 true<|b+1)<|cC (f:=aJ) (l:=d) (ws:=[PId.mk f.act f.item f.n]))<|Kl 1 21 (iK a)<|K1 0 (.frz 1 [5,10,11,12]) (et (tR 3 true (b+1) 1<|aW zL<|d++ [PId.mk f.act f.item f.n]) ti)<|Mf<|i (b+1) (c+1) (d++ [PId.mk f.act f.item f.n])<|by (refine ⟨by simp_all,by simp,?_,?_⟩ <;> first | (rw [← hj0.2.2.1,ee,nJ];rfl) | (rw [← hj0.2.2.1];simp;done) | grind)
theorem MW (u:TUnit) (p:List PStep) (hf:kP 85 [eU u, .ls (p.map az)] (.ls (([]:List PId).map aJ))):kP 47 [eU u, .ls (p.map az)] (.tuple [aJ bL,iV 7]):=by
  exact bB Tryz.func47<|Kp 4 hf<|Kf 8<|bg<|ca [ak [iV 0,iV 0,iV 0],iV 7]
theorem MK (u x:TUnit) (p:List PStep) (hf:kP 85 [eU u, .ls (p.map az)] (.ls ([ae x].map aJ))):kP 47 [eU u, .ls (p.map az)] (.tuple [aJ (ae x),iV 0]):=by
  exact bB Tryz.func47<|Kp 4 hf<|Kf 13<|bg<|ca [ak [iV (ae x).a,iV (ae x).i,iV (ae x).n],iV 0]
theorem MJ (u:TUnit) (p:List PStep) (a b:PId) (r:List PId) (hf:kP 85 [eU u, .ls (p.map az)] (.ls ((a::b::r).map aJ))):kP 47 [eU u, .ls (p.map az)] (.tuple [aJ bL,iV 8]):=by
  have q1:ab (Int.ofNat (r.length+1+1)) 0=false:=rfl
  have q2:ab (Int.ofNat (r.length+1+1)) 1=false:=rfl
  exact bB Tryz.func47<|Kp 4 hf<|Kl 2 11 (ln aJ<|a::b::r)<|Kf 8<|bg<|ca [ak [iV 0,iV 0,iV 0],iV 8]
/-- The way of an address, whatever it finds. -/
theorem MX (u:TUnit) (p:List PStep) (hf:kP 182 [eU u, .ls (p.map az)] (.ls ((dP u p).map aV))) (hn:nU u≤2 ^ 11):kP 47 [eU u, .ls (p.map az)] (.tuple [aJ (aC u p).1,iV (aC u p).2]):=by
  have ha:=MY u p (dP u p) hf (Ix p hn)
  cases e:dP u p with
  | nil=>grind [GV, MW]
  | cons x r=>
    cases r with
    | nil=>grind [GK, MK]
    | cons y r=>grind [GJ, MJ]
noncomputable abbrev zU:AV:= .agg [iV 0,iV 0,iV 0,iV 0, .str [], .nils, .nils, .nils]
noncomputable abbrev du (xs:List AV):AObj:= .row 8 false 0 xs
theorem Tn {L Z:List AV} {n i:Nat} (hn:L.length=n) (hi:i<n):((L++Z).drop (i+1)).take (n - (i+1))=L.drop (i+1):=by
  grind
theorem To {L Z:List AV} {n i:Nat} (hn:L.length=n) (hi:i<n):bC (L++Z) (0+i) (L.drop (i+1))=L.eraseIdx i++(L.drop (n - 1)++Z):=by
  unfold bC
  grind
theorem DD {L Z:List AV} {z:AV} {n i:Nat} (hn:L.length=n) (hi:i<n):bC (L.eraseIdx i++(L.drop (n - 1)++Z)) (n - 1) (List.replicate 1 z)=L.eraseIdx i++(z::Z):=by
  unfold bC
  have h1:(L.eraseIdx i).length=n - 1:=by grind
  have h2:(L.drop (n - 1)).length=1:=by grind
  grind
theorem W8 {a b:Nat} (h:a≠b):ab (Int.ofNat a) (Int.ofNat b)=false:=by
  grind [rZ]
theorem Qm (L Z:List AV) (n k i:Nat) (hi:i+1<n) (hn:L.length=n) (hs:n≤2 ^ 20) (hf:dn 8 L=true) (hZ:Z.length=k) (hT:aq (L++Z)=0):kD 237 [.slice 0 0 0 n (some (n+k)),nV i,nV (i+1)] (ay [du (L++Z)]) (.slice 0 0 0 (n - 1) (some (n+k))) (ay [du (L.eraseIdx i++(zU::Z))]):=by
  have hq:ab (Int.ofNat i) (Int.ofNat (i+1))=false:=W8 (by omega)
  let q:=AHeap.mk 1000000 (bo (ay [aZ 8 false 0 (L++Z)]) ([0]) Tr.nil);let q1:=ay [aZ 8 false 0 (L.eraseIdx i++(L.drop (n - 1)++Z))];let q2:=ay [aZ 8 false 0 (L++Z)];let q3:=(some (aH 0 0 0 n (some (n+k))));let q4:=aH 0 0 (i+1) (n - (i+1)) (some (n+k - (i+1)));let q5:=(some (nV (i+1)));let q6:=(some (nV i));let q7:=(some (nV n));let q8:=AHeap.mk 1 (bo q2 ([0,0]) Tr.nil);let q9:=aH 0 0 0 (n - 1) (some (n+k));let q10:=aH 0 0 (n - 1) 1 (some (k+1));let q11:=aH 0 0 0 i (some (n+k));exact gQ Tryz.func237 fun a=>Ko 5 (by exact CO (xs:=L++Z) (l:=i) (h:=i+1) (m:=n) (by kernel_rfl) (by rfl) (by rfl) (by rfl) (by omega) (by omega) (by omega) (by omega) (by omega) (by omega) (by omega):bj q2 (dK (8) q2 q3 q6 q5 q7)=some (ARes.val (AV.slice 0 0 i 1 (some (n - i))) q2))<|Kh 2 hq<|Kv 4 (by exact iZ (xs:=L++Z) (l:=0) (h:=i) (by kernel_rfl) (by rfl) (by rfl) (by omega) (by omega) (by omega) (by omega) (by omega) (by omega):bj (q) (dK (8) (q) q3 (none) q6 (none))=some (ARes.val q11 q))<|Kv 1 (by exact iZ (xs:=L++Z) (l:=i+1) (h:=n) (by kernel_rfl) (by rfl) (by rfl) (by omega) (by omega) (by omega) (by omega) (by omega) (by omega):bj (q) (dK (8) (q) q3 q5 (none) (none))=some (ARes.val q4 q))<|Md rt (iJ (tR 8 false 0 1 (oA:aq (L++Z)=0))<|iJ (tR 8 false 0 1 (oA:aq (L++Z)=0)) rt) (by exact KS (new:=L.drop (i+1)) rfl (yz rfl (Tn hn (by omega))) (rQ hf) (fun e=>by have:=congrArg List.length e;grind) (by grind) (by grind) (ao (m:=2 ^ 20) (by grind) (by omega) (by omega)) (by grind) (To hn (by omega)):fU (dx (8) (120) (q8) ((some q11)) ((some q4)))=some (ARes.val q9 (AHeap.put q8 0 (AObj.row 8 false 0 (L.eraseIdx i++(L.drop (n - 1)++Z))))))<|Ko 4 (by exact iZ (xs:=L.eraseIdx i++(L.drop (n - 1)++Z)) (l:=n - 1) (h:=n) (by kernel_rfl) (by rfl) (by rfl) (by omega) (by omega) (by omega) (by omega) (by omega) (by omega):bj q1 (dK (8) q1 ((some q9)) ((some (nV (n - 1)))) q7 (none))=some (ARes.val q10 q1))<|Mo (by exact IC rfl (by kernel_rfl) (DD hn (by omega)):fU (vb (8) (AV.agg [iV 0,iV 0,iV 0,iV 0,AV.str [],AV.nils,AV.nils,AV.nils]) q1 ((some q10)))=some (ARes.val (AV.tuple []) (ay [AObj.row 8 false 0 (L.eraseIdx i++zU::Z)])))<|Kf 1 a
theorem Ql (L Z:List AV) (k i:Nat) (hn:L.length=i+1) (hs:i<2 ^ 20) (hk:0<k) (hZ:Z.length=k) (hT:aq (L++Z)=0):kD 237 [.slice 0 0 0 (i+1) (some (i+1+k)),nV i,nV (i+1)] (ay [du (L++Z)]) (.slice 0 0 0 i (some (i+1+k))) (ay [du (L.eraseIdx i++(zU::Z))]):=by
  have hq:ab (Int.ofNat i) (Int.ofNat (i+1))=false:=W8 (by omega)
  have hr:L.eraseIdx i++(L.drop (i+1 - 1)++Z)=L++Z:=by
    rw [Ng,Ex (by omega),dB,← nJ,show i+1 - 1=i from rfl,I6]
  have hc:bC (L++Z) i (List.replicate 1 zU)=L.eraseIdx i++(zU::Z):=by
    have h:=DD (z:=zU) (Z:=Z) hn (show i<i+1 by omega)
    grind
  let q:=ay [aZ 8 false 0 (L++Z)];let q1:=AHeap.mk 1000000 (bo q ([0]) Tr.nil);let q2:=(some (nV (i+1)));let q3:=aH 0 0 0 i (some (i+1+k));let q4:=(some (aH 0 0 0 (i+1) (some (i+1+k))));let q5:=(some (nV i));let q6:=AHeap.mk 1 (bo q ([0,0]) Tr.nil);let q7:=aH 0 0 (i+1) 0 (some k);let q8:=aH 0 0 i 1 (some (k+1));exact gQ Tryz.func237 fun a=>Ko 5 (by exact CO (xs:=L++Z) (l:=i) (h:=i+1) (m:=i+1) (by kernel_rfl) (by rfl) (by rfl) (by rfl) (by omega) (by omega) (by omega) (by omega) (by omega) (by omega) (by omega):bj q (dK (8) q q4 q5 q2 q2)=some (ARes.val (AV.slice 0 0 i 1 (some 1)) q))<|Kh 2 hq<|Kv 4 (by exact iZ (xs:=L++Z) (l:=0) (h:=i) (by kernel_rfl) (by rfl) (by rfl) (by omega) (by omega) (by omega) (by omega) (by omega) (by omega):bj (q1) (dK (8) (q1) q4 (none) q5 (none))=some (ARes.val q3 q1))<|Kv 1 (by exact iZ (xs:=L++Z) (l:=i+1) (h:=i+1) (by kernel_rfl) (by rfl) (by rfl) (by omega) (by omega) (by omega) (by omega) (by omega) (by omega):bj (q1) (dK (8) (q1) q4 q2 (none) (none))=some (ARes.val q7 q1))<|Md rt (iJ (tR 8 false 0 1 (oA:aq (L++Z)=0))<|iJ (tR 8 false 0 1 (oA:aq (L++Z)=0)) rt) (by exact RQ (yz rfl List.take_zero):fU (dx (8) (120) (q6) ((some q3)) ((some q7)))=some (ARes.val q3 q6))<|Ko 4 (by exact iZ (xs:=L++Z) (l:=i) (h:=i+1) (by kernel_rfl) (by rfl) (by rfl) (by omega) (by omega) (by omega) (by omega) (by omega) (by omega):bj q (dK (8) q ((some q3)) q5 q2 (none))=some (ARes.val q8 q))<|Mo (by exact IC rfl (by kernel_rfl) hc:fU (vb (8) (AV.agg [iV 0,iV 0,iV 0,iV 0,AV.str [],AV.nils,AV.nils,AV.nils]) q ((some q8)))=some (ARes.val (AV.tuple []) (ay [AObj.row 8 false 0 (L.eraseIdx i++zU::Z)])))<|Kf 1 a
theorem Qi (L:List AV) (i:Nat) (hn:L.length=i+1) (hs:i<2 ^ 20) (hT:aq L=0):kD 237 [.slice 0 0 0 (i+1) (some (i+1)),nV i,nV (i+1)] (ay [du L]) (.slice 0 0 0 i (some (i+1))) (ay [du (L.eraseIdx i++ [zU])]):=by
  have hq:ab (Int.ofNat i) (Int.ofNat (i+1))=false:=W8 (by omega)
  have hr:L.eraseIdx i++(L.drop (i+1 - 1)++ [])=L:=by
    rw [Ng,Ex (by omega),dB,dB,show i+1 - 1=i from rfl,I6]
  have hc:bC L i (List.replicate 1 zU)=L.eraseIdx i++ [zU]:=by
    have h:=DD (z:=zU) (Z:= []) hn (show i<i+1 by omega)
    grind
  let q:=ay [aZ 8 false 0 L];let q1:=AHeap.mk 1000000 (bo q ([0]) Tr.nil);let q2:=(some (nV (i+1)));let q3:=aH 0 0 0 i (some (i+1));let q4:=(some (aH 0 0 0 (i+1) (some (i+1))));let q5:=(some (nV i));let q6:=aH 0 0 i 1 (some 1);let q7:=AHeap.mk 1 (bo q ([0,0]) Tr.nil);let q8:=aH 0 0 0 0 (some 0);exact gQ Tryz.func237 fun a=>Ko 5 (by exact CO (xs:=L) (l:=i) (h:=i+1) (m:=i+1) (by kernel_rfl) (by rfl) (by rfl) (by rfl) (by omega) (by omega) (by omega) (by omega) (by omega) (by omega) (by omega):bj q (dK (8) q q4 q5 q2 q2)=some (ARes.val q6 q))<|Kh 2 hq<|Kv 4 (by exact iZ (xs:=L) (l:=0) (h:=i) (by kernel_rfl) (by rfl) (by rfl) (by omega) (by omega) (by omega) (by omega) (by omega) (by omega):bj (q1) (dK (8) (q1) q4 (none) q5 (none))=some (ARes.val q3 q1))<|Kv 1 (by exact Ja (xs:=L) (l:=i+1) (h:=i+1) (by kernel_rfl) (by rfl) (by rfl) (by rfl) rfl:bj (q1) (dK (8) (q1) q4 q2 (none) (none))=some (ARes.val q8 q1))<|Md rt (iJ (tR 8 false 0 1 (oA:aq (L)=0))<|iJ (tR 8 false 0 1 (oA:aq (L)=0)) rt) (by exact RQ (yz rfl List.take_zero):fU (dx (8) (120) (q7) ((some q3)) ((some q8)))=some (ARes.val q3 q7))<|Ko 4 (by exact iZ (xs:=L) (l:=i) (h:=i+1) (by kernel_rfl) (by rfl) (by rfl) (by omega) (by omega) (by omega) (by omega) (by omega) (by omega):bj q (dK (8) q ((some q3)) q5 q2 (none))=some (ARes.val q6 q))<|Mo (by exact IC rfl (by kernel_rfl) hc:fU (vb (8) (AV.agg [iV 0,iV 0,iV 0,iV 0,AV.str [],AV.nils,AV.nils,AV.nils]) q ((some q6)))=some (ARes.val (AV.tuple []) (ay [AObj.row 8 false 0 (L.eraseIdx i++ [zU])])))<|Kf 1 a
theorem Qh (L Z:List AV) (n i:Nat) (hi:i<n) (hn:L.length=n) (hs:n≤2 ^ 20) (hf:dn 8 L=true) (hT:aq (L++Z)=0):kD 237 [.slice 0 0 0 n (some (n+Z.length)),nV i,nV (i+1)] (ay [du (L++Z)]) (.slice 0 0 0 (n - 1) (some (n+Z.length))) (ay [du (L.eraseIdx i++(zU::Z))]):=by
  rcases fh (i+1) n with h | h
  · exact Qm L Z n _ i h hn hs hf rfl hT
  · obtain rfl:n=i+1:=by omega
    cases Z with
    | nil=>rw [dB];rw [dB] at hT;exact Qi L i hn (by omega) hT
    | cons z r=>exact Ql L (z::r) _ i hn (by omega) (Nat.succ_pos _) rfl hT
/-- A list with an element more at a place. -/
def gd (i:Nat) (x:AV) (l:List AV):List AV:=l.take i++(x::l.drop i)
theorem zw {i:Nat} {x:AV} {l:List AV} (h:i≤l.length):(gd i x l).length=l.length+1:=by
  grind [gd]
theorem FH {x:AV} {l:List AV} {n:Nat} (h:l.length=n):gd n x l=l++ [x]:=by
  grind [gd]
theorem Xa (n:Nat):ab (Int.ofNat n) (Int.ofNat n)=true:=bW _
theorem YV {a b:Nat} (h:a<b):aB (Int.ofNat a) (Int.ofNat b)=true:=ny (by simp_all)
theorem YY {a b:Nat} (h:b≤a):aB (Int.ofNat a) (Int.ofNat b)=false:=lO (by simp_all)
theorem Tf {L Z:List AV} {x z:AV} {n:Nat} (h:L.length=n):bC (L++z::Z) (0+n) [x]=gd n x L++Z:=by
  unfold bC
  rw [FH h,gY,← h,List.take_left,show (L++z::Z).drop (L.length + [x].length)=Z by rw [← BZ,List.drop_left];rfl]
theorem Si {L Z:List AV} {z:AV} {n i:Nat} (h:L.length=n) (hi:i<n):bC (L++z::Z) (i+1) (L.drop i)=L.take (i+1)++(L.drop i++Z):=by
  unfold bC
  rw [List.take_append_of_le_length (by omega),nJ,xE,show i+1+(L.length - i)=L.length+1 by omega,← BZ,List.drop_left];rfl
theorem PX {L Z:List AV} {x:AV} {n i:Nat} (h:L.length=n) (hi:i<n):bC (L.take (i+1)++(L.drop i++Z)) i [x]=gd i x L++Z:=by
  unfold bC gd
  grind
theorem Sv {L:List AV} {z x:AV} {n i:Nat} (h:L.length=n) (hi:i<n):bC (L.take i++List.replicate (n+1 - i) z) i [x]=L.take i++(x::List.replicate (n - i) z):=by
  unfold bC
  have h1:(L.take i).length=i:=by grind
  have e:n+1 - i=(n - i)+1:=by omega
  rw [List.take_append_of_le_length (by omega),BQ (by omega),← BZ]
  simp_all
theorem O7 {L:List AV} {z x:AV} {n i:Nat} (h:L.length=n) (hi:i<n):bC (L.take i++(x::List.replicate (n - i) z)) (i+1) (L.drop i)=gd i x L:=by
  unfold bC gd
  have h1:(L.take i).length=i:=by grind
  have h2:(L.take i++(x::List.replicate (n - i) z)).length=n+1:=by grind
  have e:(L.take i++(x::List.replicate (n - i) z)).drop (i+1+(L.drop i).length) = []:=Ex (by grind)
  grind
theorem Pm (L Z:List AV) (x z:AV) (t:Bool) (n k:Nat) (hn:L.length=n) (hs:n<2 ^ 20) (hk:Z.length=k) (hx:dn 8 [x]=true):kD 140 [.slice 0 0 0 n (some (n+(k+1))),nV n, .ps [x] t] (ay [du (L++z::Z)]) (.slice 0 0 0 (n+1) (some (n+(k+1)))) (ay [du (gd n x L++Z)]):=by
  have hq:=Xa n
  let q:=ay [aZ 8 false 0 (L++z::Z)];exact gQ Tryz.func140 fun a=>Ko 2 (by exact iZ (xs:=L++z::Z) (l:=n) (h:=n) (by kernel_rfl) (by rfl) (by rfl) (by omega) (by omega) (by omega) (by omega) (by omega) (by omega):bj q (dK (8) q ((some (AV.slice 0 0 0 n (some (n+(k+1)))))) ((some (nV n))) (none) (none))=some (ARes.val (AV.slice 0 0 n 0 (some (k+1))) q))<|Kt 11 hq<|Ko 1 (by exact KS (new:= [x]) rfl (by rfl) hx (lL _ _) (by simp_all) (by simp_all) (ao (m:=2 ^ 20) (by grind) (by omega) (by omega)) rfl (Tf hn):fU (dx (8) (120) (ay [AObj.row 8 false 0 (L++z::Z)]) ((some (AV.slice 0 0 0 n (some (n+(k+1)))))) ((some (AV.ps [x] t))))=some (ARes.val (AV.slice 0 0 0 (n+1) (some (n+(k+1)))) (ay [AObj.row 8 false 0 (gd n x L++Z)])))<|Kf 0 a
theorem Pi (L:List AV) (x:AV) (t:Bool) (n:Nat) (hn:L.length=n) (hs:n<2 ^ 20) (hx:dn 8 [x]=true) (hT:aq L=0) (hI:aq (gd n x L)=0):kD 140 [.slice 0 0 0 n (some n),nV n, .ps [x] t] (ay [du L]) (.ls (gd n x L)) (ay [du L]):=by
  have hq:=Xa n
  have hIl:(gd n x L).length=n+1:=(zw (by omega)).trans (by omega)
  let q:=ay [aZ 8 false 0 L];exact gQ Tryz.func140 fun a=>Ko 2 (by exact Ja (xs:=L) (l:=n) (h:=n) (by kernel_rfl) (by rfl) (by rfl) (by rfl) rfl:bj q (dK (8) q ((some (AV.slice 0 0 0 n (some n)))) ((some (nV n))) (none) (none))=some (ARes.val (AV.slice 0 0 0 0 (some 0)) q))<|Kt 11 hq<|Ko 1 (by exact TT (new:= [x]) rfl (by rfl) hx (lL _ _) (by simp_all) (ao (m:=2 ^ 20) (by grind) (by omega) (by omega)) (by grind [FH]) ((zw (by omega)).trans (by omega)):fU (dx (8) (120) (ay [AObj.row 8 false 0 L]) ((some (AV.slice 0 0 0 n (some n)))) ((some (AV.ps [x] t))))=some (ARes.val (AV.slice 1 0 0 (n+1) none) (ay [AObj.row 8 false 0 L,AObj.row 8 true 0 (gd n x L)])))<|Mg 0<|M2 (.fsl 1 [] 6<|gd n x L) (et (tR 8 false 0 1 (oA:aq (L)=0)) ti) (cp (aU 0) (UX (oA:(gd n x L).length=n+1)) (oA:aq (gd n x L)=0))<|Ml 6 (fx (gd n x L) false (oA:aq (gd n x L)=0))<|Mf a
theorem Ph (L Z:List AV) (x z:AV) (t:Bool) (n k i:Nat) (hi:i<n) (hn:L.length=n) (hs:n<2 ^ 20) (hk:Z.length=k) (hx:dn 8 [x]=true) (hf:dn 8 L=true) (hT:aq (L++z::Z)=0) (hov:kD 234 [.ps [x] t, .slice 0 0 (i+1) (n - i) (some (n+(k+1) - (i+1)))] (ay [du (L++z::Z)]) (.bool false) (ay [du (L++z::Z)])):kD 140 [.slice 0 0 0 n (some (n+(k+1))),nV i, .ps [x] t] (ay [du (L++z::Z)]) (.slice 0 0 0 (n+1) (some (n+(k+1)))) (ay [du (gd i x L++Z)]):=by
  have hq:ab (Int.ofNat i) (Int.ofNat n)=false:=W8 (by omega)
  have hl:aB (Int.ofNat (n+(k+1))) (Int.ofNat (n+1))=false:=YY (by omega)
  let q:=ay [aZ 8 false 0 (L++z::Z)];let q1:=ay [aZ 8 false 0 (L.take (i+1)++(L.drop i++Z))];let q2:=AHeap.mk 1000000 (bo q ([0]) Tr.nil);let q3:=aH 0 0 0 (n+1) (some (n+(k+1)));let q4:=aH 0 0 i (n+1 - i) (some (n+(k+1) - i));let q5:=(some (nV i));let q6:=aH 0 0 (i+1) (n - i) (some (n+(k+1) - (i+1)));let q7:=(some (nV (i+1)));let q8:=(some (aH 0 0 0 n (some (n+(k+1)))));exact gQ Tryz.func140 fun a=>Ko 2 (by exact iZ (xs:=L++z::Z) (l:=i) (h:=n) (by kernel_rfl) (by rfl) (by rfl) (by omega) (by omega) (by omega) (by omega) (by omega) (by omega):bj q (dK (8) q q8 q5 (none) (none))=some (ARes.val (AV.slice 0 0 i (n - i) (some (n+(k+1) - i))) q))<|Kh 11 hq<|Kl 2 28 (iK n)<|Kh 2 hl<|Kl 3 59 (iK n)<|Mo (by exact iZ (xs:=L++z::Z) (l:=0) (h:=n+1) (by kernel_rfl) (by rfl) (by rfl) (by omega) (by omega) (by omega) (by omega) (by omega) (by omega):bj q (dK (8) q q8 (none) ((some (nV (n+1)))) (none))=some (ARes.val q3 q))<|Kl 5 65 (iK i)<|Mo (by exact iZ (xs:=L++z::Z) (l:=i+1) (h:=n+1) (by kernel_rfl) (by rfl) (by rfl) (by omega) (by omega) (by omega) (by omega) (by omega) (by omega):bj q (dK (8) q ((some q3)) q7 (none) (none))=some (ARes.val q6 q))<|Me hov<|Mg 4<|Ma (iK i)<|Mv (by exact iZ (xs:=L++z::Z) (l:=i+1) (h:=n+1) (by kernel_rfl) (by rfl) (by rfl) (by omega) (by omega) (by omega) (by omega) (by omega) (by omega):bj (q2) (dK (8) (q2) ((some q3)) q7 (none) (none))=some (ARes.val q6 q2))<|Kv 1 (by exact iZ (xs:=L++z::Z) (l:=i) (h:=n+1) (by kernel_rfl) (by rfl) (by rfl) (by omega) (by omega) (by omega) (by omega) (by omega) (by omega):bj (q2) (dK (8) (q2) ((some q3)) q5 (none) (none))=some (ARes.val q4 q2))<|Md rt (iJ (tR 8 false 0 1 (oA:aq (L++z::Z)=0))<|iJ (tR 8 false 0 1 (oA:aq (L++z::Z)=0)) rt) (by exact KF (zs:=((L++z::Z).drop i).take (n+1 - i)) rfl (yz rfl rfl) (by grind [rQ]) (by grind) (by grind [Si]):fU (uU (8) ((AHeap.mk 1 (bo (ay [AObj.row 8 false 0 (L++z::Z)]) ([0,0]) Tr.nil))) ((some (AV.slice 0 0 (i+1) (n - i) (some (n+(k+1) - (i+1)))))) ((some (AV.slice 0 0 i (n+1 - i) (some (n+(k+1) - i))))))=some (ARes.val (nV (n - i)) (AHeap.put (AHeap.mk 1 (bo (ay [AObj.row 8 false 0 (L++z::Z)]) ([0,0]) Tr.nil)) 0 (AObj.row 8 false 0 (L.take (i+1)++(L.drop i++Z))))))<|Ko 1 (by exact iZ (xs:=L.take (i+1)++(L.drop i++Z)) (l:=i) (h:=n+1) (by kernel_rfl) (by rfl) (by rfl) (by omega) (by omega) (by omega) (by omega) (by omega) (by omega):bj q1 (dK (8) q1 ((some q3)) q5 (none) (none))=some (ARes.val q4 q1))<|Ko 0 (by exact KF (zs:= [x]) rfl (by rfl) (qT hx) (by grind) (by grind [List.take_of_length_le, PX]):fU (uU (8) q1 ((some q4)) ((some (AV.ps [x] t))))=some (ARes.val (iV 1) (ay [AObj.row 8 false 0 (gd i x L++Z)])))<|Kf 1 a
theorem Pg (L:List AV) (x:AV) (t:Bool) (n i:Nat) (hi:i<n) (hn:L.length=n) (hs:n<2 ^ 20) (hx:dn 8 [x]=true) (hf:dn 8 L=true) (hT:aq L=0) (hT2:aq (L.take i++(x::List.replicate (n - i) zU))=0) (hI:aq (gd i x L)=0):kD 140 [.slice 0 0 0 n (some n),nV i, .ps [x] t] (ay [du L]) (.ls (gd i x L)) (ay [du L]):=by
  have hq:ab (Int.ofNat i) (Int.ofNat n)=false:=W8 (by omega)
  have hl:aB (Int.ofNat n) (Int.ofNat (n+1))=true:=YV (by omega)
  have hIl:(gd i x L).length=n+1:=(zw (by omega)).trans (by omega)
  let q:=ay [aZ 8 false 0 L,aZ 8 true 0 (L.take i++x::List.replicate (n - i) zU)];let q1:=ay [aZ 8 false 0 L,aZ 8 true 0 (L.take i++List.replicate (n+1 - i) zU)];let q2:=ay [aZ 8 false 0 L];let q3:=(some (nV i));let q4:=AHeap.mk 1000000 (bo q ([0]) Tr.nil);let q5:=aH 0 0 i (n - i) (some (n - i));let q6:=(some (aH 0 0 0 n (some n)));let q7:=AHeap.mk 2 (bo q ([1,0]) Tr.nil);let q8:=aH 1 0 i (n+1 - i) none;let q9:=aH 1 0 0 (n+1) none;let q10:=aH 0 0 0 i (some n);exact gQ Tryz.func140 fun a=>Ko 2 (by exact iZ (xs:=L) (l:=i) (h:=n) (by kernel_rfl) (by rfl) (by rfl) (by omega) (by omega) (by omega) (by omega) (by omega) (by omega):bj q2 (dK (8) q2 q6 q3 (none) (none))=some (ARes.val q5 q2))<|Kh 11 hq<|Kl 2 28 (iK n)<|Kt 2 hl<|Ko 1 (by exact iZ (xs:=L) (l:=0) (h:=i) (by kernel_rfl) (by rfl) (by rfl) (by omega) (by omega) (by omega) (by omega) (by omega) (by omega):bj q2 (dK (8) q2 q6 (none) q3 (none))=some (ARes.val q10 q2))<|Kl 2 37 (iK n)<|Ko 0 (by (show bj _ (some (AV.int .i64 (IntKind.i64.wrap (Int.ofNat (n+1) - Int.ofNat i))))=_;rw [show (Int.ofNat (n+1) - Int.ofNat i)=Int.ofNat (n+1 - i) by grind,xK (by simp_all) (by grind)];rfl):bj (ay [AObj.row 8 false 0 L]) (Ro (pm BinOp.sub (Tryz.prog.underlying 3) (cH Tryz.prog 3) (cM Tryz.prog 3) (dN Tryz.prog 10 3 0)) ((some (nV (n+1)))) ((some (nV i))))=some (ARes.val (nV (n+1 - i)) (ay [AObj.row 8 false 0 L])))<|Mo (by exact Sg rfl (by omega) (by omega) (by kernel_rfl) (ao (m:=2 ^ 21) (by omega) (by omega) (by omega)) (ao (m:=2 ^ 21) (by omega) (by omega) (by omega)) (by simp_all) (by grind):fU (BT (8) (120) (AV.agg [iV 0,iV 0,iV 0,iV 0,AV.str [],AV.nils,AV.nils,AV.nils]) q2 ((some q10)) ((some (nV (n+1 - i)))))=some (ARes.val q9 q1))<|Ko 2 (by exact Jy (xs:=L.take i++List.replicate (n+1 - i) zU) (l:=i) (h:=n+1) (by kernel_rfl) (by rfl) (by rfl) (by omega) (by grind) (by omega) (by omega):bj q1 (dK (8) q1 ((some q9)) q3 (none) (none))=some (ARes.val q8 q1))<|Ko 0 (by exact KF (zs:= [x]) rfl (by rfl) (qT hx) (by grind) (by grind [List.take_of_length_le, Sv]):fU (uU (8) q1 ((some q8)) ((some (AV.ps [x] t))))=some (ARes.val (iV 1) q))<|Mg 2<|Ma (iK i)<|Mv (by exact Jy (xs:=L.take i++(x::List.replicate (n - i) zU)) (l:=i+1) (h:=n+1) (by kernel_rfl) (by rfl) (by rfl) (by omega) (by grind) (by omega) (by omega):bj ((AHeap.mk 1000000 (bo (ay [AObj.row 8 false 0 L,AObj.row 8 true 0 (L.take i++x::List.replicate (n - i) zU)]) ([1]) Tr.nil))) (dK (8) ((AHeap.mk 1000000 (bo (ay [AObj.row 8 false 0 L,AObj.row 8 true 0 (L.take i++x::List.replicate (n - i) zU)]) ([1]) Tr.nil))) ((some (AV.slice 1 0 0 (n+1) none))) ((some (nV (i+1)))) (none) (none))=some (ARes.val (AV.slice 1 0 (i+1) (n - i) none) (AHeap.mk 1000000 (bo (ay [AObj.row 8 false 0 L,AObj.row 8 true 0 (L.take i++x::List.replicate (n - i) zU)]) ([1]) Tr.nil))))<|Kv 1 (by exact iZ (xs:=L) (l:=i) (h:=n) (by kernel_rfl) (by rfl) (by rfl) (by omega) (by omega) (by omega) (by omega) (by omega) (by omega):bj (q4) (dK (8) (q4) q6 q3 (none) (none))=some (ARes.val q5 q4))<|Md rt (iJ (tR 8 true 0 2 (oA:aq (L.take i++x::List.replicate (n - i) zU)=0))<|iJ (tR 8 false 0 2 (oA:aq (L)=0)) rt) (by exact KF (zs:=L.drop i) rfl (yz rfl (BQ (by simp_all))) (qT (rQ hf)) (by simp_all) (by grind [List.length_drop, O7]):fU (uU (8) (q7) ((some (AV.slice 1 0 (i+1) (n - i) none))) ((some q5)))=some (ARes.val (nV (n - i)) (AHeap.put q7 1 (AObj.row 8 true 0 (gd i x L)))))<|Mg 1<|M2 (.fsl 1 [] 6<|gd i x L) (et (tR 8 false 0 1 (oA:aq (L)=0)) ti) (cp (aU 0) (UX (oA:(gd i x L).length=n+1)) (oA:aq (gd i x L)=0))<|Ml 6 (fx (gd i x L) false (oA:aq (gd i x L)=0))<|Mf a
theorem FF (x:TUnit) (t:Bool):kP 140 [.nils,iV 0, .ps [eU x] t] (.ls [eU x]):=by
  have hx:dn 8 [eU x]=true:=by kernel_rfl
  have hIl : [eU x].length=1:=rfl
  have hI:aq [eU x]=0:=by kernel_rfl
  let q:= [ak [iV x.act,iV x.item,iV x.n,iV x.kind,aj x.label,aX (x.head.map aQ),aX (x.words.map aQ),aX (x.kids.map aV)]];exact bB Tryz.func140<|Ko 18 (by (simp only [dx,gx,kj,kJ,gM,hx];rfl):fU (dx (8) (120) (ay []) ((some (AV.nils))) ((some (AV.ps [AV.agg [iV x.act,iV x.item,iV x.n,iV x.kind,AV.str x.label,AV.ls (x.head.map aQ),AV.ls (x.words.map aQ),AV.ls (x.kids.map aV)]] t))))=some (ARes.val (AV.slice 0 0 0 1 none) (ay [AObj.row 8 true 0 [eU x]])))<|K1 0 (.frz 0 [6]) ti<|Mf (fx q _<|by rfl:Le _ (AV.ps q false))
theorem FE (x:TUnit) (t:Bool):kP 140 [.ps [] true,iV 0, .ps [eU x] t] (.ls [eU x]):=by
  have hx:dn 8 [eU x]=true:=by kernel_rfl
  have hIl : [eU x].length=1:=rfl
  have hI:aq [eU x]=0:=by kernel_rfl
  let q:= [ak [iV x.act,iV x.item,iV x.n,iV x.kind,aj x.label,aX (x.head.map aQ),aX (x.words.map aQ),aX (x.kids.map aV)]];exact bB Tryz.func140<|Ko 18 (by (simp only [dx,gx,kj,kJ,gM,hx];rfl):fU (dx (8) (120) (ay []) ((some (AV.ps [] true))) ((some (AV.ps [AV.agg [iV x.act,iV x.item,iV x.n,iV x.kind,AV.str x.label,AV.ls (x.head.map aQ),AV.ls (x.words.map aQ),AV.ls (x.kids.map aV)]] t))))=some (ARes.val (AV.slice 0 0 0 1 none) (ay [AObj.row 8 true 0 [eU x]])))<|K1 0 (.frz 0 [6]) ti<|Mf (fx q _<|by rfl:Le _ (AV.ps q false))
noncomputable def Jq:TypeInfo:=(Tryz.prog.info? 31).getD default
theorem NH:Tryz.prog.info? 31=some Jq:=by kernel_rfl
/-- A unit of zero values says no more than the zero value. -/
theorem Wj:Le (aV ba) zU:=aN (.cons (Le.refl _) (.cons (Le.refl _) (.cons (Le.refl _) (.cons (Le.refl _) (.cons (Le.refl _) (.cons Le.nils (.cons Le.nils (.cons Le.nils .nil)))))))) rfl
theorem He:Jq.size=8:=by kernel_rfl
theorem En:Jq.bytes=120:=by kernel_rfl
theorem Xv (l:List TUnit):dn 8 (l.map aV)=true:=fw (fun u=>by cases u;rfl) l
/-- A copy of units: a row of its own, which holds zero values behind them. -/
theorem DE (xs:List TUnit) (hne:xs≠ []) (hl:xs.length≤2 ^ 20) (a b c:AObj):kC 233 [.ls (xs.map aV)] (ay [a,b,c])
    (fun v h=>∃ k:Nat,True∧v = .slice 3 0 0 xs.length (some (xs.length+k))∧h=ay [a,b,c,du ((xs++List.replicate k ba).map aV)]):=by
  simp only [pB,List.map_replicate]
  have hn:xs.map aV≠ []:=fun h=>hne (List.map_eq_nil_iff.1 h)
  have hf:=Xv xs
  have hsm:small (xs.map aV).length 120=true:=by grind [ao]
  have hlen:xs.length=(xs.map aV).length:=(cX ..).symm
  rw [hlen]
  generalize xs.map aV=L at hn hf hsm
  refine aF.enter 2 (fn:=Tryz.f233) Tryz.func233 (by kernel_rfl) rfl ⟨by kernel_rfl,by kernel_rfl⟩ ?_
  refine al.seq (al.mono (Db pa iL (ev 40) (s':=⟨dR 8 [(0, .ls L),(2, .nils)],ay [a,b,c]⟩) (.go 0 .fin) (by kernel_rfl)) ?_)
  rintro _ _ ⟨rfl,rfl⟩
  refine al.seq (al.seq (al.mono (xb iL (ev 40) (Ψ:=fun s=>s=⟨dR 8 [(0, .ls L),(2, .nils),(3, .ps L false),(4, .bool false)],ay [a,b,c]⟩) (.go 0 (.nz 3 .abs (.go 0 .fin)))
    (W:=(L = []→False)∧(⟨dR 8 [(0, .ls L),(2, .nils),(3, .ps L false),(4, .bool false)],ay [a,b,c]⟩:St)=⟨dR 8 [(0, .ls L),(2, .nils),(3, .ps L false),(4, .bool false)],ay [a,b,c]⟩) ⟨hn,rfl⟩ (by kernel_rfl)) ?_))
  rintro _ _ ⟨rfl,rfl⟩
  refine al.cond (t:=false) (by kernel_rfl) (fun h=>by grind) fun _=>al.skip ?_
  refine al.seq (al.region ?_)
  show cj _ _ _ _ [_,_,_,_] _ _
  refine cj.one (s':=⟨dR 8 [(0, .ls L),(2, .nils),(3, .ps L false),(4, .bool false),(5, .ps [] true)],ay [a,b,c]⟩) (ev 40) (by kernel_rfl) ?_
  refine cj.one (s':=⟨dR 8 [(0, .ls L),(2, .nils),(3, .ps L false),(4, .bool false),(5, .ps [] true),(6, .ls L)],ay [a,b,c]⟩) (ev 40) (by kernel_rfl) ?_
  refine rj (I:=fun _=>True) (r:=fun k:Nat=> .slice 3 0 0 L.length (some (L.length+k))) (H:=fun k=>ay [a,b,c, .row 8 false 0 (L++List.replicate k (aV ba))]) (by kernel_rfl)
    (fun pl M a w g1 g2 g3=>uc (z:=aV ba) (z0:=zU) (xs:=L) (t:=29) (tx:=29) (e:=31) (i:=Jq) He En (by kernel_rfl) ⟨31,by kernel_rfl⟩ NH (by kernel_rfl) Wj (by kernel_rfl) (by kernel_rfl) hn hf (by kernel_rfl) hsm (by omega) pl M a w g1 g2 g3) fun k _=>?_
  refine ⟨dR 8 [(0, .ls L),(2, .nils),(3, .ps L false),(4, .bool false),(5, .ps [] true),(6, .ls L),(7, .slice 3 0 0 L.length (some (L.length+k)))],by kernel_rfl,?_⟩
  refine cj.one (s':=⟨dR 8 [(0, .ls L),(2, .slice 3 0 0 L.length (some (L.length+k))),(3, .ps L false),(4, .bool false),(5, .ps [] true),(6, .ls L),(7, .slice 3 0 0 L.length (some (L.length+k)))],ay [a,b,c, .row 8 false 0 (L++List.replicate k (aV ba))]⟩) (ev 40) (by kernel_rfl) (cj.nil (al.ret ⟨fun id h=>(by grind), .slice 3 0 0 L.length (some (L.length+k)),by kernel_rfl,k,trivial,by kernel_rfl,by kernel_rfl⟩))
/-- The unit that a closure changes: its kids are 'K'. -/
noncomputable abbrev dt (u:TUnit) (K:AV):AObj:= .row 8 false 0 [.agg [iV u.act,iV u.item,iV u.n,iV u.kind, .str u.label, .ls (u.head.map aQ), .ls (u.words.map aQ),K]]
theorem Wv (u:TUnit) (n c i:Nat) (R R':List AV) (hT:aq R=0) (hT2:aq R'=0) (hi:i<n) (hs:n≤2 ^ 20) (hD:kD 237 [.slice 1 0 0 n (some c),nV i,nV (i+1)] (ay [dt u (.slice 1 0 0 n (some c)),du R]) (.slice 1 0 0 (n - 1) (some c)) (ay [dt u (.slice 1 0 0 n (some c)),du R'])) :
    kD 236 [.ptr 0 0 0 0, .pptr [nV i] 0 0] (ay [dt u (.slice 1 0 0 n (some c)),du R]) (.tuple []) (ay [dt u (.slice 1 0 0 (n - 1) (some c)),du R']):=by
  exact gQ Tryz.func236 fun a=>Mg 6<|Ma (iK i)<|M3 (.efx false (aH 1 0 0 (n - 1)<|some c)<|ay [aZ 8 false 0 [ak [iV u.act,iV u.item,iV u.n,iV u.kind,aj u.label,aX<|u.head.map aQ,aX<|u.words.map aQ,aH 1 0 0 n<|some c]],aZ 8 false 0 R']) (cp (tR 8 false 0 2 (oA:aq (R)=0)) rt ti) ti hD<|Kf 2 a
theorem Vd (u x:TUnit) (n c i:Nat) (R R':List AV) (hT:aq R=0) (hT2:aq R'=0) (hD:kD 140 [.slice 1 0 0 n (some c),nV i, .ps [eU x] true] (ay [dt u (.slice 1 0 0 n (some c)),du R]) (.slice 1 0 0 (n+1) (some c)) (ay [dt u (.slice 1 0 0 n (some c)),du R'])) :
    kD 139 [.ptr 0 0 0 0, .pptr [nV i] 0 0, .pptr [eU x] 0 0] (ay [dt u (.slice 1 0 0 n (some c)),du R]) (.tuple []) (ay [dt u (.slice 1 0 0 (n+1) (some c)),du R']):=by
  exact gQ Tryz.func139 fun a=>Mg 7<|M3 (.efx false (aH 1 0 0 (n+1)<|some c)<|ay [aZ 8 false 0 [ak [iV u.act,iV u.item,iV u.n,iV u.kind,aj u.label,aX<|u.head.map aQ,aX<|u.words.map aQ,aH 1 0 0 n<|some c]],aZ 8 false 0 R']) (cp (tR 8 false 0 2 (oA:aq (R)=0)) rt ti) ti hD<|Kf 2 a
theorem Vc (u x:TUnit) (n c i:Nat) (R Y:List AV) (hT:aq R=0) (hD:kD 140 [.slice 1 0 0 n (some c),nV i, .ps [eU x] true] (ay [dt u (.slice 1 0 0 n (some c)),du R]) (.ls Y) (ay [dt u (.slice 1 0 0 n (some c)),du R])) :
    kD 139 [.ptr 0 0 0 0, .pptr [nV i] 0 0, .pptr [eU x] 0 0] (ay [dt u (.slice 1 0 0 n (some c)),du R]) (.tuple []) (ay [dt u (.ls Y),du R]):=by
  let q:= [ak [iV u.act,iV u.item,iV u.n,iV u.kind,aj u.label,aX (u.head.map aQ),aX (u.words.map aQ),aH 1 0 0 n (some c)]];exact gQ Tryz.func139 fun a=>Mg 7<|M3 (.efx true (aX Y)<|ay [aZ 8 false 0 q,aZ 8 false 0 R]) (cp (tR 8 false 0 2 (oA:aq (R)=0)) rt ti) (cp (aU<|some<|aZ 8 false 0 R) (aU<|some<|aZ 8 false 0 q) ti) hD<|Kf 2 a
theorem Vb (u x:TUnit) (Y:List AV) (hD:kP 140 [.nils,iV 0, .ps [eU x] true] (.ls Y)) :
    kD 139 [.ptr 0 0 0 0, .pptr [iV 0] 0 0, .pptr [eU x] 0 0] (ay [dt u .nils]) (.tuple []) (ay [dt u (.ls Y)]):=by
  exact gQ Tryz.func139 fun a=>Kp 7 hD<|Kf 2 a
theorem Va (u x:TUnit) (Y:List AV) (hD:kP 140 [(.ps [] true),iV 0, .ps [eU x] true] (.ls Y)) :
    kD 139 [.ptr 0 0 0 0, .pptr [iV 0] 0 0, .pptr [eU x] 0 0] (ay [dt u (.ps [] true)]) (.tuple []) (ay [dt u (.ls Y)]):=by
  exact gQ Tryz.func139 fun a=>Kp 7 hD<|Kf 2 a
theorem VJ (u x:TUnit) (n c i:Nat) (R R':List AV) (hT:aq R=0) (hT2:aq R'=0) (hD:kD 140 [.slice 1 0 0 n (some c),nV i, .ps [eU x] true] (ay [dt u (.slice 1 0 0 n (some c)),du R]) (.slice 1 0 0 (n+1) (some c)) (ay [dt u (.slice 1 0 0 n (some c)),du R'])) :
    kD 150 [.ptr 0 0 0 0, .pptr [nV i] 0 0, .pptr [eU x] 0 0] (ay [dt u (.slice 1 0 0 n (some c)),du R]) (.tuple []) (ay [dt u (.slice 1 0 0 (n+1) (some c)),du R']):=by
  exact gQ Tryz.func150 fun a=>Mg 7<|M3 (.efx false (aH 1 0 0 (n+1)<|some c)<|ay [aZ 8 false 0 [ak [iV u.act,iV u.item,iV u.n,iV u.kind,aj u.label,aX<|u.head.map aQ,aX<|u.words.map aQ,aH 1 0 0 n<|some c]],aZ 8 false 0 R']) (cp (tR 8 false 0 2 (oA:aq (R)=0)) rt ti) ti hD<|Kf 2 a
theorem VW (u x:TUnit) (n c i:Nat) (R Y:List AV) (hT:aq R=0) (hD:kD 140 [.slice 1 0 0 n (some c),nV i, .ps [eU x] true] (ay [dt u (.slice 1 0 0 n (some c)),du R]) (.ls Y) (ay [dt u (.slice 1 0 0 n (some c)),du R])) :
    kD 150 [.ptr 0 0 0 0, .pptr [nV i] 0 0, .pptr [eU x] 0 0] (ay [dt u (.slice 1 0 0 n (some c)),du R]) (.tuple []) (ay [dt u (.ls Y),du R]):=by
  let q:= [ak [iV u.act,iV u.item,iV u.n,iV u.kind,aj u.label,aX (u.head.map aQ),aX (u.words.map aQ),aH 1 0 0 n (some c)]];exact gQ Tryz.func150 fun a=>Mg 7<|M3 (.efx true (aX Y)<|ay [aZ 8 false 0 q,aZ 8 false 0 R]) (cp (tR 8 false 0 2 (oA:aq (R)=0)) rt ti) (cp (aU<|some<|aZ 8 false 0 R) (aU<|some<|aZ 8 false 0 q) ti) hD<|Kf 2 a
theorem VX (u x:TUnit) (Y:List AV) (hD:kP 140 [.nils,iV 0, .ps [eU x] true] (.ls Y)) :
    kD 150 [.ptr 0 0 0 0, .pptr [iV 0] 0 0, .pptr [eU x] 0 0] (ay [dt u .nils]) (.tuple []) (ay [dt u (.ls Y)]):=by
  exact gQ Tryz.func150 fun a=>Kp 7 hD<|Kf 2 a
theorem VZ (u x:TUnit) (Y:List AV) (hD:kP 140 [(.ps [] true),iV 0, .ps [eU x] true] (.ls Y)) :
    kD 150 [.ptr 0 0 0 0, .pptr [iV 0] 0 0, .pptr [eU x] 0 0] (ay [dt u (.ps [] true)]) (.tuple []) (ay [dt u (.ls Y)]):=by
  exact gQ Tryz.func150 fun a=>Kp 7 hD<|Kf 2 a
theorem Wk (u:TUnit) (l:List PWord):kD 143 [.ptr 0 0 0 0, .pptr [.ls (l.map aQ)] 0 0] (ay [dt u (.ls (u.kids.map aV))]) (.tuple []) (ay [dt (iE l u) (.ls (u.kids.map aV))]):=by
  exact gQ Tryz.func143 fun a=>Kf 4 a
theorem Wn (u:TUnit) (l:List PWord):kD 145 [.ptr 0 0 0 0, .pptr [.ls (l.map aQ)] 0 0] (ay [dt u (.ls (u.kids.map aV))]) (.tuple []) (ay [dt (iE l u) (.ls (u.kids.map aV))]):=by
  exact gQ Tryz.func145 fun a=>Kf 4 a
theorem Xx (u:TUnit) (l:List PWord):kD 147 [.ptr 0 0 0 0, .pptr [.ls (l.map aQ)] 0 0] (ay [dt u (.ls (u.kids.map aV))]) (.tuple []) (ay [dt (qa l u) (.ls (u.kids.map aV))]):=by
  exact gQ Tryz.func147 fun a=>Kf 4 a
theorem Wl (u:TUnit) (d:PDeed):kD 149 [.ptr 0 0 0 0, .pptr [aY d] 0 0] (ay [dt u (.ls (u.kids.map aV))]) (.tuple []) (ay [dt (kO d.it.label u) (.ls (u.kids.map aV))]):=by
  exact gQ Tryz.func149 fun a=>Kf 6 a
noncomputable abbrev uP (p:PId):AObj:= .row 3 false 0 [aJ p]
noncomputable abbrev zO:AObj:= .row 8 false 0 [zU]
theorem GI:kP 233 [.nils] .nils:=by
  exact wk Tryz.func233 (.go 4 .fin)<|bg aa
theorem GH:kP 233 [.ps [] false] (.ps [] true):=by
  exact wk Tryz.func233 (.go 7 .fin)<|bg<|kg [] true
theorem QD (w:TUnit) (r:List TUnit) (hl:r.length<2 ^ 20):kP 233 [.ls ((w::r).map aV)] (.ls ((w::r).map aV)):=by
  let q:=List.map aV (w::r);exact bB Tryz.func233<|Mg 1<|Mz 3 (fun (a:((w::r).map aV:List AV) = [])=>Mw .abs<|lL _ _ a)<|Mg 3<|M2 .apl (et (sA:List.map aV (w::r)≠ [])<|fw (sz:=8) (f:=aV) (fun _=>by (rw [aA];rfl))<|w::r) (by (refine ao (m:=2 ^ 21) ?_ ?_ ?_ <;> first | omega | grind):small ((w::r).map aV).length 120=true)<|Mg 0<|M2 (.fsl 0 [] 2 q) ti (cp (aU 0) (tA aV (w::r) q.length (sA:(w::r).length=((w::r).map aV).length))<|aW gO<|w::r)<|Ml 2 (fx q false<|aW gO<|w::r)<|Mf<|bg<|aX q
theorem Cf (l:List TUnit) (hl:l.length≤2 ^ 20):kP 233 [.ls (l.map aV)] (.ls (l.map aV)):=by
  cases l with
  | nil=>exact aO.ls0 (GI.less Le.nils) (GH.lessB (u:= .ls []) (by kernel_rfl))
  | cons w r=>grind [QD]
/-- The unit is found; its kids stay what they are. -/
theorem xl (g:Nat) (bs:List AV) (p:PId) (u u2:TUnit) (hA:aq [eU u,aJ p, .func (.func g) [] bs]=0) (hp:(ab u.act p.a && (ab u.item p.i && ab u.n p.n))=true) (hl:u.kids.length≤2 ^ 20) (hd:kD g (.ptr 0 0 0 0::bs) (ay [dt u (.ls (u.kids.map aV)),uP p,zO]) (.tuple []) (ay [dt u2 (.ls (u2.kids.map aV)),uP p,zO])):kP 138 [eU u,aJ p, .func (.func g) [] bs] (eU u2):=by
  have hc:=Cf u.kids hl
  let q:= [iV p.a,iV p.i,iV p.n];exact bB (ht:=oA) Tryz.func138<|Kv 5 (lU ((Tryz.prog).underlying 27) u.act u.item u.n p.a p.i p.n<|ay [aZ 8 false 0 [ak [iV u.act,iV u.item,iV u.n,iV u.kind,aj u.label,aX<|u.head.map aQ,aX<|u.words.map aQ,aX<|u.kids.map aV]],aZ 3 false 0 [ak q],aZ 8 false 0 [ak [iV 0,iV 0,iV 0,iV 0,aj [],aa,aa,aa]]])<|Mt hp<|Kp 1 hc<|Ke 2 hd<|Kf 1<|bg<|ak [iV u2.act,iV u2.item,iV u2.n,iV u2.kind,aj u2.label,aX<|u2.head.map aQ,aX<|u2.words.map aQ,aX<|u2.kids.map aV]
/-- The unit is found; it has kids; in its own row something is done. -/
theorem S8 (g:Nat) (bs:List AV) (p:PId) (u u2:TUnit) (n2:Nat) (Z:Nat→List AV) (hA:aq [eU u,aJ p, .func (.func g) [] bs]=0) (hp:(ab u.act p.a && (ab u.item p.i && ab u.n p.n))=true) (hl:u.kids.length≤2 ^ 20) (hne:u.kids≠ []) (hn2:u2.kids.length=n2) (hd : ∀ k,kD g (.ptr 0 0 0 0::bs) (ay [dt u (.slice 3 0 0 u.kids.length (some (u.kids.length+k))),uP p,zO,du ((u.kids++List.replicate k ba).map aV)]) (.tuple []) (ay [dt u2 (.slice 3 0 0 n2 (some (u.kids.length+k))),uP p,zO,du (u2.kids.map aV++Z k)])):kP 138 [eU u,aJ p, .func (.func g) [] bs] (eU u2):=by
  let q:= [ak [iV u.act,iV u.item,iV u.n,iV u.kind,aj u.label,aX (u.head.map aQ),aX (u.words.map aQ),aX (u.kids.map aV)]];let q1:= [iV p.a,iV p.i,iV p.n];let q2:= [ak [iV 0,iV 0,iV 0,iV 0,aj [],aa,aa,aa]];let q3:=List.map aV u2.kids;exact bB (ht:=oA) Tryz.func138<|Kv 5 (lU ((Tryz.prog).underlying 27) u.act u.item u.n p.a p.i p.n<|ay [aZ 8 false 0 q,aZ 3 false 0 [ak q1],aZ 8 false 0 q2])<|Mt hp<|Mg 1<|Mq (DE u.kids hne hl (aZ 8 false 0 q) (aZ 3 false 0 [ak q1])<|aZ 8 false 0 q2) fun a _=>Ke 2 (hd a)<|M2 (.fza 0 7 3 [3,6] q3) (kx rt rt rt ti) (cp (aU 0) (N0 (xs:=List.map aV u2.kids) (ys:=Z a) (n:=n2) sA)<|aW gO u2.kids)<|Kf 1<|bg<|ak [iV u2.act,iV u2.item,iV u2.n,iV u2.kind,aj u2.label,aX<|u2.head.map aQ,aX<|u2.words.map aQ,aX q3]
theorem TJ {l m:List TUnit} {i:Nat} (h:i<l.length):gD (l++m) i=gD l i:=by
  grind [gD]
theorem s9 {l m:List TUnit} {i n:Nat} {x:TUnit} (h:l.length=n) (hi:i<n):((l++m).set i x).take n=l.set i x:=by
  simp_all
theorem RY {l m:List TUnit} {n:Nat} (h:l.length=n):(l++m).take n=l:=by simp_all
theorem Ki {l:List TUnit} {i:Nat} (h:i<l.length):l.drop i=gD l i::l.drop (i+1):=by
  grind [List.drop_eq_getElem_cons, gD]
theorem Wb {p:PId} {f:TUnit→TUnit} {l:List TUnit} {i:Nat} (h:jQ p f l i (l.drop i)) (hi:l.length≤i):eb p f l=l:=by
  grind [List.drop_eq_nil_of_le, jQ.done]
theorem Wy {p:PId} {f:TUnit→TUnit} {l:List TUnit} {i:Nat} (h:jQ p f l i (l.drop i)) (hi:i<l.length) (hw:cJ p (gD l i)=false):jQ p f l (i+1) (l.drop (i+1)):=by
  grind [Ki, jQ.skip]
theorem Wa {p:PId} {f:TUnit→TUnit} {l:List TUnit} {i:Nat} (h:jQ p f l i (l.drop i)) (hi:i<l.length) (hw:cJ p (gD l i)=true):eb p f l=l.set i (dQ p f (gD l i)):=by
  grind [Ki, jQ.hit]
/-- The unit is another one without kids. -/
theorem XX (g:Nat) (bs:List AV) (p:PId) (u:TUnit) (hA:aq [eU u,aJ p, .func (.func g) [] bs]=0) (hA2:(AV.func (.func g) [] bs).top=0) (hp:(ab u.act p.a && (ab u.item p.i && ab u.n p.n))=false) (h0:u.kids.length=0) (hl0:aB 0 (Int.ofNat u.kids.length)=false):kP 138 [eU u,aJ p, .func (.func g) [] bs] (eU u):=by
  have hc:=Cf u.kids (by omega)
  let q:= [aZ 8 false 0 [ak [iV u.act,iV u.item,iV u.n,iV u.kind,aj u.label,aX (u.head.map aQ),aX (u.words.map aQ),aX (u.kids.map aV)]],aZ 3 false 0 [ak [iV p.a,iV p.i,iV p.n]],aZ 8 false 0 [ak [iV 0,iV 0,iV 0,iV 0,aj [],aa,aa,aa]]];let q1:= [bU (bY g) [] bs,aR 0 0 0 0,aR 1 0 0 0,aR 2 0 0 0,aX (u.kids.map aV),aX (u.kids.map aV),nV u.kids.length,iV 0];exact bB (ht:=oA) Tryz.func138<|Kv 5 (lU ((Tryz.prog).underlying 27) u.act u.item u.n p.a p.i p.n<|ay q)<|Mh hp<|Kp 1 hc<|Kl 2 27 (ln aV u.kids)<|Mg 0<|XD [2,3,4,6,7,26,27,28] (q1,q) True 0 ti fun _ _=>Kh 0 hl0<|Kf 4<|bg<|ak [iV u.act,iV u.item,iV u.n,iV u.kind,aj u.label,aX<|u.head.map aQ,aX<|u.words.map aQ,aX<|u.kids.map aV]
/-- The unit is another: what is done below. -/
theorem XZ (g:Nat) (bs:List AV) (p:PId) (f:TUnit→TUnit) (u:TUnit) (hA:aq [eU u,aJ p, .func (.func g) [] bs]=0) (hA2:(AV.func (.func g) [] bs).top=0) (hp:(ab u.act p.a && (ab u.item p.i && ab u.n p.n))=false) (hne:u.kids≠ []) (hn:u.kids.length≤2 ^ 20)
    (hf : ∀ k,k∈u.kids→kP 48 [eU k,aJ p] (.tuple [eU (ej p k), .bool (cJ p k)]))
    (ih : ∀ k,k∈u.kids→kP 138 [eU k,aJ p, .func (.func g) [] bs] (eU (dQ p f k))):kP 138 [eU u,aJ p, .func (.func g) [] bs] (eU (mG u (eb p f u.kids))):=by
  have rr0 : ∀ b',(h:(List.map aV (mG u (eb p f u.kids)).kids)=b':=by first | rfl | (rw [Wa hx0.2 (by (first | omega | (simp only [oN] at *;omega))) (by rw [← q0 (by (first | omega | (simp only [oN] at *;omega)))];assumption),q0 (by (first | omega | (simp only [oN] at *;omega)))];exact congrArg _ (s9 rfl (by (first | omega | (simp only [oN] at *;omega)))).symm) | (rw [Wb hx0.2 (by (first | omega | (simp only [oN] at *;omega)))];exact congrArg _ (RY rfl).symm))→(List.map aV (mG u (eb p f u.kids)).kids)=b':=(fun _ h=>h);exact bB (ht:=oA) Tryz.func138<|Kv 5 (lU ((Tryz.prog).underlying 27) u.act u.item u.n p.a p.i p.n<|ay [aZ 8 false 0 [ak [iV u.act,iV u.item,iV u.n,iV u.kind,aj u.label,aX<|u.head.map aQ,aX<|u.words.map aQ,aX<|u.kids.map aV]],aZ 3 false 0 [ak [iV p.a,iV p.i,iV p.n]],aZ 8 false 0 [ak [iV 0,iV 0,iV 0,iV 0,aj [],aa,aa,aa]]])<|Mh hp<|Mg 1<|Mq (DE u.kids hne hn (aZ 8 false 0 [ak [iV u.act,iV u.item,iV u.n,iV u.kind,aj u.label,aX<|u.head.map aQ,aX<|u.words.map aQ,aX<|u.kids.map aV]]) (aZ 3 false 0 [ak [iV p.a,iV p.i,iV p.n]])<|aZ 8 false 0 [ak [iV 0,iV 0,iV 0,iV 0,aj [],aa,aa,aa]]) fun a _=>Mg 3<|Yv (0:Nat) [2,3,4,6,7,26,27,28] (fun b=>([bU (bY g) [] bs,aR 0 0 0 0,aR 1 0 0 0,aR 2 0 0 0,aH 3 0 0 u.kids.length<|some<|u.kids.length+a,aH 3 0 0 u.kids.length<|some<|u.kids.length+a,nV u.kids.length,nV b],[aZ 8 false 0 [ak [iV u.act,iV u.item,iV u.n,iV u.kind,aj u.label,aX<|u.head.map aQ,aX<|u.words.map aQ,aX<|u.kids.map aV]],aZ 3 false 0 [ak [iV p.a,iV p.i,iV p.n]],aZ 8 false 0 [ak [iV 0,iV 0,iV 0,iV 0,aj [],aa,aa,aa]],aZ 8 false 0<|(u.kids++List.replicate a ba).map aV])) (fun a=>a≤u.kids.length∧jQ p f u.kids a (u.kids.drop a)) (fun a=>u.kids.length - a) (by simp_all [jQ.start]) fun b hx0 c=>have hx0:b≤u.kids.length∧jQ p f u.kids b (u.kids.drop b):=hx0;have q0:b<u.kids.length→gD (u.kids++List.replicate a ba) b=gD u.kids b:=fun h=>TJ h;Ka 0 (Int.ofNat b) (Int.ofNat u.kids.length) (fun _ _=>K1 0 .rix (et (aU 0) (sA:b<u.kids.length))<|Mr (et (aU 0)<|qL aV (g:=Go.Ev.eU) aA (gR:b<(u.kids++List.replicate a ba).length))<|Kp 4 (hf (gD (u.kids++List.replicate a ba) b)<|by grind [gH])<|Kb 6 (cJ p<|gD (u.kids++List.replicate a ba) b) (fun _=>Kp 4 (ih (gD (u.kids++List.replicate a ba) b)<|by grind [gH])<|M1 .rix (et (aU 0) (sA:b<u.kids.length))<|M1 (.rst (ak [iV (gD (u.kids++List.replicate a ba) b).act,iV (gD (u.kids++List.replicate a ba) b).item,iV (gD (u.kids++List.replicate a ba) b).n,iV (gD (u.kids++List.replicate a ba) b).kind,aj (gD (u.kids++List.replicate a ba) b).label,aX<|List.map aQ (gD (u.kids++List.replicate a ba) b).head,aX<|List.map aQ (gD (u.kids++List.replicate a ba) b).words,aX<|List.map aV (gD (u.kids++List.replicate a ba) b).kids])<|((u.kids++List.replicate a ba).set b<|dQ p f<|gD (u.kids++List.replicate a ba) b).map aV) (cp (aU 0) (qL aV (g:=Go.Ev.eU) aA (gR:b<(u.kids++List.replicate a ba).length))<|CP (f:=aV) (g:=Go.Ev.eU) aA (l:=u.kids++List.replicate a ba) (i:=b) (w:=dQ p f<|gD (u.kids++List.replicate a ba) b))<|Mg 0<|M2 (.fsl 3 [3,6] 48<|(((u.kids++List.replicate a ba).set b<|dQ p f<|gD (u.kids++List.replicate a ba) b).take u.kids.length).map aV) (kx rt rt rt ti) (cp (aU 0) (Bf (f:=aV) (l:=(u.kids++List.replicate a ba).set b<|dQ p f<|gD (u.kids++List.replicate a ba) b) (n:=u.kids.length))<|aW gO<|((u.kids++List.replicate a ba).set b<|dQ p f<|gD (u.kids++List.replicate a ba) b).take u.kids.length)<|Ml 48 (fx ((((u.kids++List.replicate a ba).set b<|dQ p f<|gD (u.kids++List.replicate a ba) b).take u.kids.length).map aV) (n5 (some<|u.kids.length+a)<|some u.kids.length)<|aW gO<|((u.kids++List.replicate a ba).set b<|dQ p f<|gD (u.kids++List.replicate a ba) b).take u.kids.length)<|Kf 3 (aN (.cons (bg _)<|.cons (bg _)<|.cons (bg _)<|.cons (bg _)<|.cons (bg _)<|.cons (bg _)<|.cons (bg _)<|.cons (b9<|rr0<|(((u.kids++List.replicate a ba).set b<|dQ p f<|gD (u.kids++List.replicate a ba) b).take u.kids.length).map aV) .nil)<|by kernel_rfl:Le _ (AV.agg [iV u.act,iV u.item,iV u.n,iV u.kind,AV.str u.label,AV.ls (u.head.map aQ),AV.ls (u.words.map aQ),AV.ls ((((u.kids++List.replicate a ba).set b (dQ p f (gD (u.kids++List.replicate a ba) b))).take u.kids.length).map aV)]))) fun _=>Kl 0 47 (iK b)<|Mg 0<|M2 (.frl 4 [3,4,6,7,26,27,28] [2]) (HU (NP (sz:=8) (op:=false) (ep:=0) (n:=4)<|aW gO<|u.kids++List.replicate a ba) rt rt rt ti) (et (oA:(AV.func (Fn.func g) [] bs).top≤4) ti)<|Mf<|c (b+1) (by grind [Wy]) gR) fun _ _=>Mg 0<|M2 (.fsl 3 [3,6] 48<|((u.kids++List.replicate a ba).take u.kids.length).map aV) (kx rt rt rt ti) (cp (aU 0) (Bf (f:=aV) (l:=u.kids++List.replicate a ba) (n:=u.kids.length))<|aW gO<|(u.kids++List.replicate a ba).take u.kids.length)<|Ml 48 (fx (((u.kids++List.replicate a ba).take u.kids.length).map aV) (n5 (some<|u.kids.length+a)<|some u.kids.length)<|aW gO<|(u.kids++List.replicate a ba).take u.kids.length)<|Kf 3 (aN (.cons (bg _)<|.cons (bg _)<|.cons (bg _)<|.cons (bg _)<|.cons (bg _)<|.cons (bg _)<|.cons (bg _)<|.cons (b9<|rr0<|((u.kids++List.replicate a ba).take u.kids.length).map aV) .nil)<|by kernel_rfl:Le _ (AV.agg [iV u.act,iV u.item,iV u.n,iV u.kind,AV.str u.label,AV.ls (u.head.map aQ),AV.ls (u.words.map aQ),AV.ls (((u.kids++List.replicate a ba).take u.kids.length).map aV)]))
theorem gS {g:Nat} {bs:List AV} {p:PId} (hb:aq bs=0) (x:TUnit):aq [eU x,aJ p, .func (.func g) [] bs]=0:=by
  have h1:(eU x).top=0:=by rw [← aA];exact gO x
  have h2:(AV.func (.func g) [] bs).top=0:=by simp only [AV.top,aq,hb];rfl
  exact jN.2 fun y hy=>by
    simp only [eP,List.mem_nil_iff,or_false] at hy
    rcases hy with rfl | rfl | rfl
    · omega
    · exact zL p
    omega
/-- with: the first unit of the number is changed, wherever it stands. -/
theorem od (g:Nat) (bs:List AV) (p:PId) (f:TUnit→TUnit) (hb:aq bs=0) : ∀ (u:TUnit),nU u≤2 ^ 19→(∀ x,x∈bx u→x.head.length<2 ^ 30∧x.words.length<2 ^ 30)→
    (∀ v,v∈bx u→fT p v=true→kP 138 [eU v,aJ p, .func (.func g) [] bs] (eU (f v)))→kP 138 [eU u,aJ p, .func (.func g) [] bs] (eU (dQ p f u)):=by
  refine TUnit.ind fun u ih hn ht hit=>?_
  have hA:=gS (g:=g) (bs:=bs) (p:=p) hb
  cases hi:fT p u with
  | true=>grind [qu, cV]
  | false=>
    have hkl:=bK u
    rw [me hi]
    by_cases h0:u.kids = []
    · have e:mG u (eb p f u.kids)=u:=by rw [h0,rN];cases u;simp only [TUnit.kids] at h0;subst h0;rfl
      rw [e]
      exact XX g bs p u (hA u) (by simp only [AV.top,aq,hb];rfl) hi (by simp_all) (by rw [h0];rfl)
    · exact XZ g bs p f u (hA u) (by simp only [AV.top,aq,hb];rfl) hi h0 (by omega) (fun k hk=>QX p k (by have:=gw hk;omega) fun x hx=>ht x (bh hk hx))
        fun k hk=>ih k hk (by have:=gw hk;omega) (fun x hx=>ht x (bh hk hx)) fun v hv=>hit v (bh hk hv)
theorem Ax {bs:List AV} (rs:List Nat) (h0:fC rs 0=0) (hb:aq bs=0):lu (fC rs) (.ptr 0 0 0 0::bs) = .ptr 0 0 0 0::bs:=by
  grind [lu, Ev.ren, eL]
theorem zP {g:Nat} {bs:List AV} {u u2:TUnit} {n n2 c:Nat} {X X2:List AV} {A B:AObj} (hb:aq bs=0) (hX:aq X=0) (hX2:aq X2=0) (h:kD g (.ptr 0 0 0 0::bs) (ay [dt u (.slice 1 0 0 n (some c)),du X]) (.tuple []) (ay [dt u2 (.slice 1 0 0 n2 (some c)),du X2])) :
    kD g (.ptr 0 0 0 0::bs) (ay [dt u (.slice 3 0 0 n (some c)),A,B,du X]) (.tuple []) (ay [dt u2 (.slice 3 0 0 n2 (some c)),A,B,du X2]):=
  pU iL [0,3] h (Ax _ rfl hb) rfl rfl ⟨⟨rfl,uo (by kernel_rfl)⟩,⟨rfl,by show aq X≤2;omega⟩,trivial⟩ ⟨⟨rfl,uo (by kernel_rfl)⟩,⟨rfl,by show aq X2≤2;omega⟩,trivial⟩
    (by show Nat.mx _ (aq bs)≤2;rw [hb];exact uo (by kernel_rfl)) (bG _) ⟨by kernel_rfl,by rw [uM hX];kernel_rfl,trivial⟩ ⟨by kernel_rfl,by kernel_rfl,trivial⟩
    (by show _=AHeap.put (AHeap.put _ _ _) _ (jT _ (.row 8 false 0 X2));rw [uM hX2];kernel_rfl)
theorem Ca {g:Nat} {bs:List AV} {u u2:TUnit} {n c:Nat} {X Y:List AV} {A B:AObj} (hb:aq bs=0) (hX:aq X=0) (h:kD g (.ptr 0 0 0 0::bs) (ay [dt u (.slice 1 0 0 n (some c)),du X]) (.tuple []) (ay [dt u2 (.ls Y),du X])) :
    kD g (.ptr 0 0 0 0::bs) (ay [dt u (.slice 3 0 0 n (some c)),A,B,du X]) (.tuple []) (ay [dt u2 (.ls Y),A,B,du X]):=
  pU iL [0,3] h (Ax _ rfl hb) rfl rfl ⟨⟨rfl,uo (by kernel_rfl)⟩,⟨rfl,by show aq X≤2;omega⟩,trivial⟩ ⟨⟨rfl,uo (by kernel_rfl)⟩,⟨rfl,by show aq X≤2;omega⟩,trivial⟩
    (by show Nat.mx _ (aq bs)≤2;rw [hb];exact uo (by kernel_rfl)) (bG _) ⟨by kernel_rfl,by rw [uM hX];kernel_rfl,trivial⟩ ⟨by kernel_rfl,by kernel_rfl,trivial⟩
    (by show _=AHeap.put (AHeap.put _ _ _) _ (jT _ (.row 8 false 0 X));rw [uM hX];kernel_rfl)
theorem jE {g:Nat} {bs:List AV} {u u2:TUnit} {A B:AObj} {K K2:AV} (hb:aq bs=0) (h1:aq [.agg [iV u.act,iV u.item,iV u.n,iV u.kind, .str u.label, .ls (u.head.map aQ), .ls (u.words.map aQ),K]]=0) (h2:aq [.agg [iV u2.act,iV u2.item,iV u2.n,iV u2.kind, .str u2.label, .ls (u2.head.map aQ), .ls (u2.words.map aQ),K2]]=0) (h:kD g (.ptr 0 0 0 0::bs) (ay [dt u K]) (.tuple []) (ay [dt u2 K2])) :
    kD g (.ptr 0 0 0 0::bs) (ay [dt u K,A,B]) (.tuple []) (ay [dt u2 K2,A,B]):=
  fJ iL 0 h1 h2 h (Ax _ rfl hb) rfl rfl (by simp only [aq,AV.top,hb];rfl) rfl (by kernel_rfl) (by kernel_rfl)
/-- The unit is found; it has kids; a kid more is laid into its row, or into a new one. -/
theorem KZ (g:Nat) (bs:List AV) (p:PId) (u u2:TUnit) (n2:Nat) (Z:Nat→List AV) (hA:aq [eU u,aJ p, .func (.func g) [] bs]=0) (hp:(ab u.act p.a && (ab u.item p.i && ab u.n p.n))=true) (hl:u.kids.length≤2 ^ 20) (hne:u.kids≠ []) (hn2:u2.kids.length=n2)
    (hdA : ∀ k,By (Nat.beq k 0) true→kD g (.ptr 0 0 0 0::bs) (ay [dt u (.slice 3 0 0 u.kids.length (some (u.kids.length+k))),uP p,zO,du ((u.kids++List.replicate k ba).map aV)]) (.tuple []) (ay [dt u2 (.ls (u2.kids.map aV)),uP p,zO,du ((u.kids++List.replicate k ba).map aV)]))
    (hdB : ∀ k,By (Nat.beq k 0) false→kD g (.ptr 0 0 0 0::bs) (ay [dt u (.slice 3 0 0 u.kids.length (some (u.kids.length+k))),uP p,zO,du ((u.kids++List.replicate k ba).map aV)]) (.tuple []) (ay [dt u2 (.slice 3 0 0 n2 (some (u.kids.length+k))),uP p,zO,du (u2.kids.map aV++Z k)])):kP 138 [eU u,aJ p, .func (.func g) [] bs] (eU u2):=by
  let q:=ak [iV u2.act,iV u2.item,iV u2.n,iV u2.kind,aj u2.label,aX (u2.head.map aQ),aX (u2.words.map aQ),aX (u2.kids.map aV)];let q1:= [ak [iV u.act,iV u.item,iV u.n,iV u.kind,aj u.label,aX (u.head.map aQ),aX (u.words.map aQ),aX (u.kids.map aV)]];let q2:= [iV p.a,iV p.i,iV p.n];let q3:= [ak [iV 0,iV 0,iV 0,iV 0,aj [],aa,aa,aa]];exact bB (ht:=oA) Tryz.func138<|Kv 5 (lU ((Tryz.prog).underlying 27) u.act u.item u.n p.a p.i p.n<|ay [aZ 8 false 0 q1,aZ 3 false 0 [ak q2],aZ 8 false 0 q3])<|Mt hp<|Mg 1<|Mq (DE u.kids hne hl (aZ 8 false 0 q1) (aZ 3 false 0 [ak q2])<|aZ 8 false 0 q3) fun a _=>Ks 2 (a.beq 0) (fun b=>Me (hdA a b)<|Kf 1<|bg q) fun b=>Me (hdB a b)<|M2 (.fza 0 7 3 [3,6]<|u2.kids.map aV) (kx rt rt rt ti) (cp (aU 0) (N0 (xs:=List.map aV u2.kids) (ys:=Z a) (n:=n2) sA)<|aW gO u2.kids)<|Kf 1<|bg q
/-- The unit is found; it has no kids; it gets one. -/
theorem KX (g:Nat) (bs:List AV) (p:PId) (u u2:TUnit) (hA:aq [eU u,aJ p, .func (.func g) [] bs]=0) (hp:(ab u.act p.a && (ab u.item p.i && ab u.n p.n))=true) (h0:u.kids = [])
    (hdN:kD g (.ptr 0 0 0 0::bs) (ay [dt u .nils,uP p,zO]) (.tuple []) (ay [dt u2 (.ls (u2.kids.map aV)),uP p,zO]))
    (hdP:kD g (.ptr 0 0 0 0::bs) (ay [dt u (.ps [] true),uP p,zO]) (.tuple []) (ay [dt u2 (.ls (u2.kids.map aV)),uP p,zO])):kP 138 [eU u,aJ p, .func (.func g) [] bs] (eU u2):=by
  obtain ⟨a,i,n,k,l,h,w,ks⟩:=u
  simp only [TUnit.kids] at h0
  subst h0
  let q:=ak [iV u2.act,iV u2.item,iV u2.n,iV u2.kind,aj u2.label,aX (u2.head.map aQ),aX (u2.words.map aQ),aX (u2.kids.map aV)];let q1:= [iV p.a,iV p.i,iV p.n];exact bB (ht:=oA) Tryz.func138<|Kv 5 (lU ((Tryz.prog).underlying 27) (TUnit.mk a i n k l h w []).act (TUnit.mk a i n k l h w []).item (TUnit.mk a i n k l h w []).n p.a p.i p.n<|ay [aZ 8 false 0 [ak [iV (TUnit.mk a i n k l h w []).act,iV (TUnit.mk a i n k l h w []).item,iV (TUnit.mk a i n k l h w []).n,iV (TUnit.mk a i n k l h w []).kind,aj l,aX<|List.map aQ (TUnit.mk a i n k l h w []).head,aX<|List.map aQ (TUnit.mk a i n k l h w []).words,aX []]],aZ 3 false 0 [ak q1],aZ 8 false 0 [ak [iV 0,iV 0,iV 0,iV 0,aj [],aa,aa,aa]]])<|Mt hp<|Mg 1<|Mz 17 (fun (_:([]:List AV) = [])=>Mp GI<|Ke 2 hdN<|Kf 1<|bg q)<|Mp GH<|Ke 2 hdP<|Kf 1<|bg q
theorem jM {a b:List AV} (h1:aq a=0) (h2:aq b=0):aq (a++b)=0:=jN.2 fun x hx=>by
  rcases jV.1 hx with h | h
  · exact jN.1 h1 x h
  · exact jN.1 h2 x h
theorem QQ (l:List TUnit):dn 8 (l.map aV)=true:=fw (fun u=>by cases u;rfl) l
theorem Tz (x:TUnit):dn 8 [eU x]=true:=by kernel_rfl
theorem MF (x:TUnit):(eU x).top=0:=by rw [← aA];exact gO x
theorem sR {i:Nat} {x:TUnit} {l:List AV} (h:aq l=0):aq (gd i (eU x) l)=0:=jN.2 fun y hy=>by
  unfold gd at hy
  rcases jV.1 hy with h1 | h1
  · exact jN.1 h y (sI h1)
  · rcases eP.1 h1 with rfl | h1
    · exact MF x
    · exact jN.1 h y (Nh h1)
theorem J8 (i:Nat) (x:TUnit) (l:List TUnit):(wq i x l).map aV=gd i (eU x) (l.map aV):=by
  unfold wq gd
  rw [pB,ee,List.map_take,List.map_drop,aA]
theorem KA (i:Nat) (l:List TUnit):(l.eraseIdx i).map aV=(l.map aV).eraseIdx i:=by
  grind [List.eraseIdx_eq_take_drop_succ, List.map_take, List.map_drop]
theorem CQ {i:Nat} {x:TUnit} {l:List TUnit} (h:i≤l.length):(wq i x l).length=l.length+1:=by
  grind [wq]
theorem Fp (l:List TUnit) (k:Nat):(l++List.replicate k ba).map aV=l.map aV++List.replicate k (aV ba):=by simp_all
theorem lT (k:Nat):aq (List.replicate k (aV ba))=0:=by rw [← List.map_replicate];exact aW gO _
/-- A kid is taken out. -/
theorem NC (p:PId) (i:Nat) (u:TUnit) (hn:nU u≤2 ^ 19) (ht : ∀ x,x∈bx u→x.head.length<2 ^ 30∧x.words.length<2 ^ 30) (hv : ∀ v,v∈bx u→fT p v=true→i<v.kids.length) :
    aO Tryz.prog G 138 [eU u,aJ p, .func (.func 236) [] [.pptr [.int .i64 (.ofNat i)] 0 0]] (eU (dQ p (fD i) u)):=by
  refine od _ _ p (fD i) rfl u hn ht fun v hm hid=>?_
  have hi:=hv v hm hid
  have hkl:=bK v
  have hvu:=dH hm
  have hl:v.kids.length≤2 ^ 20:=by omega
  refine S8 _ _ p v (fD i v) (v.kids.length - 1) (fun k=>zU::List.replicate k (aV ba)) (gS rfl v) hid hl (fun e=>by grind) (by show (v.kids.eraseIdx i).length=_;grind) fun k=>?_
  have h:=Qh (v.kids.map aV) (List.replicate k (aV ba)) v.kids.length i hi (cX _) hl (QQ _) (jM (aW gO _) (lT k))
  rw [pF] at h
  have hT:aq ((v.kids.map aV).eraseIdx i++(zU::List.replicate k (aV ba)))=0:=jM (by rw [← KA];exact aW gO _) (by show Nat.mx zU.top (aq _)=0;rw [lT];rfl)
  rw [Fp]
  show aF _ _ _ _ _ fun v1 h1=>v1 = .tuple []∧h1=ay [dt v (.slice 3 0 0 (v.kids.length - 1) (some (v.kids.length+k))),uP p,zO,du ((v.kids.eraseIdx i).map aV++_)]
  rw [KA]
  refine zP rfl (jM (aW gO _) (lT k)) hT (Wv v v.kids.length _ i _ _ (jM (aW gO _) (lT k)) hT hi hl ?_)
  exact fJ iL 1 (jM (aW gO _) (lT k)) hT h rfl rfl (by simp_all) (by kernel_rfl) (by kernel_rfl) (by kernel_rfl) (by kernel_rfl)
theorem U1 (x:TUnit) (t:Bool) (off len c:Nat) (X:List AV):kD 234 [.ps [eU x] t, .slice 0 0 off len (some c)] (ay [du X]) (.bool false) (ay [du X]):=
  AH (tS:=29) (tR:=4) (e:=31) (n:=8) Tryz.func234 (by kernel_rfl) (by kernel_rfl) (by kernel_rfl) (by kernel_rfl) (by simp_all) (by kernel_rfl) (lL _ _) (by kernel_rfl:(ay [du X]).get 0=some (.row 8 false 0 X))
/-- A kid laid into a row that has room. -/
theorem FD (L:List AV) (x:TUnit) (z:AV) (Z:List AV) (n k i:Nat) (hi:i≤n) (hn:L.length=n) (hs:n<2 ^ 20) (hk:Z.length=k) (hf:dn 8 L=true) (hT:aq (L++z::Z)=0):kD 140 [.slice 0 0 0 n (some (n+(k+1))),nV i, .ps [eU x] true] (ay [du (L++z::Z)]) (.slice 0 0 0 (n+1) (some (n+(k+1)))) (ay [du (gd i (eU x) L++Z)]):=by
  rcases fh i n with h | h
  · grind [Ph, Tz, U1]
  · obtain rfl:i=n:=by omega
    exact Pm L Z (eU x) z true i k hn hs hk (Tz x)
theorem FG (L:List AV) (x:TUnit) (n i:Nat) (hi:i≤n) (hn:L.length=n) (hs:n<2 ^ 20) (hf:dn 8 L=true) (hT:aq L=0):kD 140 [.slice 0 0 0 n (some n),nV i, .ps [eU x] true] (ay [du L]) (.ls (gd i (eU x) L)) (ay [du L]):=by
  rcases fh i n with h | h
  · refine Pg L (eU x) true n i h hn hs (Tz x) hf hT (jN.2 fun y hy=>?_) (sR hT)
    rcases jV.1 hy with h1 | h1
    · exact jN.1 hT y (sI h1)
    · rcases eP.1 h1 with rfl | h1
      · exact MF x
      · rw [(List.mem_replicate.1 h1).2];rfl
  · grind [Pi, Tz, sR]
/-- A kid is laid in. -/
theorem NA (p:PId) (i:Nat) (x u:TUnit) (hn:nU u≤2 ^ 19) (ht : ∀ x,x∈bx u→x.head.length<2 ^ 30∧x.words.length<2 ^ 30) (hv : ∀ v,v∈bx u→fT p v=true→i≤v.kids.length) :
    aO Tryz.prog G 138 [eU u,aJ p, .func (.func 139) [] [.pptr [.int .i64 (.ofNat i)] 0 0, .pptr [eU x] 0 0]] (eU (dQ p (dw i x) u)):=by
  have hb:aq [.pptr [.int .i64 (.ofNat i)] 0 0, .pptr [eU x] 0 0]=0:=by kernel_rfl
  refine od _ _ p (dw i x) hb u hn ht fun v hm hid=>?_
  have hi:=hv v hm hid
  have hkl:=bK v
  have hvu:=dH hm
  have hl:v.kids.length<2 ^ 20:=by omega
  have hK:=aW gO v.kids
  by_cases h0:v.kids = []
  · rw [h0] at hi
    obtain rfl:i=0:=by simp_all
    have e:(dw 0 x v).kids = [x]:=by show wq 0 x v.kids = [x];rw [h0];rfl
    have e2:(dw 0 x v).kids.map aV = [eU x]:=by rw [e,ee,aA];rfl
    refine KX _ _ p v (dw 0 x v) (gS hb v) hid h0 ?_ ?_
    · rw [e2];exact jE (u2:=dw 0 x v) hb (by kernel_rfl) (by kernel_rfl) (Vb v x [eU x] (FF x true))
    · rw [e2];exact jE (u2:=dw 0 x v) hb (by kernel_rfl) (by kernel_rfl) (Va v x [eU x] (FE x true))
  · have e2:(dw i x v).kids.map aV=gd i (eU x) (v.kids.map aV):=J8 i x v.kids
    refine KZ _ _ p v (dw i x v) (v.kids.length+1) (fun k=>List.replicate (k - 1) (aV ba)) (gS hb v) hid (by omega) h0 (CQ hi) (fun k hk=>?_) fun k hk=>?_
    · obtain rfl:k=0:=px hk
      rw [e2,Fp,List.replicate_zero,dB]
      refine Ca (u2:=dw i x v) hb hK (Vc v x v.kids.length _ i _ _ hK ?_)
      exact fJ iL 1 hK hK (FG (v.kids.map aV) x v.kids.length i hi (cX _) hl (QQ _) hK) rfl rfl (by simp_all) (by kernel_rfl) (by kernel_rfl) (by kernel_rfl) (by kernel_rfl)
    · obtain ⟨j,rfl⟩ : ∃ j,k=j+1:=⟨k - 1,by grind [Nat.ne_of_beq_eq_false]⟩
      rw [e2,Fp,show j+1 - 1=j from rfl,List.replicate_succ]
      have hT:aq (v.kids.map aV++aV ba::List.replicate j (aV ba))=0:=by rw [← List.replicate_succ];grind [jM, lT]
      have hT2:aq (gd i (eU x) (v.kids.map aV)++List.replicate j (aV ba))=0:=jM (sR hK) (lT _)
      refine zP (u2:=dw i x v) hb hT hT2 (Vd v x v.kids.length _ i _ _ hT hT2 ?_)
      exact fJ iL 1 hT hT2 (FD (v.kids.map aV) x (aV ba) (List.replicate j (aV ba)) v.kids.length j i hi (cX _) hl (pF ..) (QQ _) hT) rfl rfl (by simp_all) (by kernel_rfl) (by kernel_rfl) (by kernel_rfl) (by kernel_rfl)
/-- A kid is laid in. -/
theorem Nt (p:PId) (i:Nat) (x u:TUnit) (hn:nU u≤2 ^ 19) (ht : ∀ x,x∈bx u→x.head.length<2 ^ 30∧x.words.length<2 ^ 30) (hv : ∀ v,v∈bx u→fT p v=true→i≤v.kids.length) :
    aO Tryz.prog G 138 [eU u,aJ p, .func (.func 150) [] [.pptr [.int .i64 (.ofNat i)] 0 0, .pptr [eU x] 0 0]] (eU (dQ p (dw i x) u)):=by
  have hb:aq [.pptr [.int .i64 (.ofNat i)] 0 0, .pptr [eU x] 0 0]=0:=by kernel_rfl
  refine od _ _ p (dw i x) hb u hn ht fun v hm hid=>?_
  have hi:=hv v hm hid
  have hkl:=bK v
  have hvu:=dH hm
  have hl:v.kids.length<2 ^ 20:=by omega
  have hK:=aW gO v.kids
  by_cases h0:v.kids = []
  · rw [h0] at hi
    obtain rfl:i=0:=by simp_all
    have e:(dw 0 x v).kids = [x]:=by show wq 0 x v.kids = [x];rw [h0];rfl
    have e2:(dw 0 x v).kids.map aV = [eU x]:=by rw [e,ee,aA];rfl
    refine KX _ _ p v (dw 0 x v) (gS hb v) hid h0 ?_ ?_
    · rw [e2];exact jE (u2:=dw 0 x v) hb (by kernel_rfl) (by kernel_rfl) (VX v x [eU x] (FF x true))
    · rw [e2];exact jE (u2:=dw 0 x v) hb (by kernel_rfl) (by kernel_rfl) (VZ v x [eU x] (FE x true))
  · have e2:(dw i x v).kids.map aV=gd i (eU x) (v.kids.map aV):=J8 i x v.kids
    refine KZ _ _ p v (dw i x v) (v.kids.length+1) (fun k=>List.replicate (k - 1) (aV ba)) (gS hb v) hid (by omega) h0 (CQ hi) (fun k hk=>?_) fun k hk=>?_
    · obtain rfl:k=0:=px hk
      rw [e2,Fp,List.replicate_zero,dB]
      refine Ca (u2:=dw i x v) hb hK (VW v x v.kids.length _ i _ _ hK ?_)
      exact fJ iL 1 hK hK (FG (v.kids.map aV) x v.kids.length i hi (cX _) hl (QQ _) hK) rfl rfl (by simp_all) (by kernel_rfl) (by kernel_rfl) (by kernel_rfl) (by kernel_rfl)
    · obtain ⟨j,rfl⟩ : ∃ j,k=j+1:=⟨k - 1,by grind [Nat.ne_of_beq_eq_false]⟩
      rw [e2,Fp,show j+1 - 1=j from rfl,List.replicate_succ]
      have hT:aq (v.kids.map aV++aV ba::List.replicate j (aV ba))=0:=by rw [← List.replicate_succ];grind [jM, lT]
      have hT2:aq (gd i (eU x) (v.kids.map aV)++List.replicate j (aV ba))=0:=jM (sR hK) (lT _)
      refine zP (u2:=dw i x v) hb hT hT2 (VJ v x v.kids.length _ i _ _ hT hT2 ?_)
      exact fJ iL 1 hT hT2 (FD (v.kids.map aV) x (aV ba) (List.replicate j (aV ba)) v.kids.length j i hi (cX _) hl (pF ..) (QQ _) hT) rfl rfl (by simp_all) (by kernel_rfl) (by kernel_rfl) (by kernel_rfl) (by kernel_rfl)
theorem Np (p:PId) (l:List PWord) (u:TUnit) (hn:nU u≤2 ^ 19) (ht : ∀ x,x∈bx u→x.head.length<2 ^ 30∧x.words.length<2 ^ 30) :
    kP 138 [eU u,aJ p, .func (.func 143) [] [.pptr [.ls (l.map aQ)] 0 0]] (eU (dQ p (iE l) u)):=by
  have hb:aq [.pptr [.ls (l.map aQ)] 0 0]=0:=by kernel_rfl
  refine od _ _ p (iE l) hb u hn ht fun v hm hid=>?_
  have hkl:=bK v
  have hvu:=dH hm
  exact xl _ _ p v ((iE l) v) (gS hb v) hid (by omega) (jE hb (by kernel_rfl) (by kernel_rfl) (Wk v l))
theorem Ns (p:PId) (l:List PWord) (u:TUnit) (hn:nU u≤2 ^ 19) (ht : ∀ x,x∈bx u→x.head.length<2 ^ 30∧x.words.length<2 ^ 30) :
    kP 138 [eU u,aJ p, .func (.func 145) [] [.pptr [.ls (l.map aQ)] 0 0]] (eU (dQ p (iE l) u)):=by
  have hb:aq [.pptr [.ls (l.map aQ)] 0 0]=0:=by kernel_rfl
  refine od _ _ p (iE l) hb u hn ht fun v hm hid=>?_
  have hkl:=bK v
  have hvu:=dH hm
  exact xl _ _ p v ((iE l) v) (gS hb v) hid (by omega) (jE hb (by kernel_rfl) (by kernel_rfl) (Wn v l))
theorem NB (p:PId) (l:List PWord) (u:TUnit) (hn:nU u≤2 ^ 19) (ht : ∀ x,x∈bx u→x.head.length<2 ^ 30∧x.words.length<2 ^ 30) :
    kP 138 [eU u,aJ p, .func (.func 147) [] [.pptr [.ls (l.map aQ)] 0 0]] (eU (dQ p (qa l) u)):=by
  have hb:aq [.pptr [.ls (l.map aQ)] 0 0]=0:=by kernel_rfl
  refine od _ _ p (qa l) hb u hn ht fun v hm hid=>?_
  have hkl:=bK v
  have hvu:=dH hm
  exact xl _ _ p v ((qa l) v) (gS hb v) hid (by omega) (jE hb (by kernel_rfl) (by kernel_rfl) (Xx v l))
theorem Nr (p:PId) (d:PDeed) (u:TUnit) (hn:nU u≤2 ^ 19) (ht : ∀ x,x∈bx u→x.head.length<2 ^ 30∧x.words.length<2 ^ 30) :
    kP 138 [eU u,aJ p, .func (.func 149) [] [.pptr [aY d] 0 0]] (eU (dQ p (kO d.it.label) u)):=by
  have hb:aq [.pptr [aY d] 0 0]=0:=by kernel_rfl
  refine od _ _ p (kO d.it.label) hb u hn ht fun v hm hid=>?_
  have hkl:=bK v
  have hvu:=dH hm
  exact xl _ _ p v ((kO d.it.label) v) (gS hb v) hid (by omega) (jE hb (by kernel_rfl) (by kernel_rfl) (Wl v d))
end Go.Proofs.YtidehekfpcgelaaGreatDoor
