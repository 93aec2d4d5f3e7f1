/- Functions walked: what each of them answers, for the law that a unit's authors are among its contributors: part 2. Conditions: those that each theorem names. -/
import Derived.Test.YtadodlkibeofjaaGreatDoorH1
namespace Go.Proofs.YtadodlkibeofjaaGreatDoor
open Go Go.Ev
theorem lq(u:TUnit)(s:PStep):kP 213 [eU u,az s] (.bool (bE s u)):=by
  have rr0 b' (h:(bE s u)=b':=by(simp only[bE,bQ,aS,ax,bS, *];first|done|rfl)):=h;exact bp Tryz.func213<|Kb 8 (ay u.kind s.kind) (fun a=>Kt 0 a<|Kt 0 a<|Kt 0 a<|Kt 0 a<|Ku 0 a<|Kf 0<|cb<|rr0<|dM u.label s.label) fun a=>Mh a<|Mh a<|Mh a<|Mh a<|My a<|Ky 0<|rr0 false
noncomputable abbrev jt(p:List PStep):AObj:=.row 1 false 0 [.ls (p.map az)]
noncomputable abbrev FJ(ep n:Nat):AObj:=.row 1 false 0 [.slice 2 ep 0 n none]
noncomputable abbrev BN(ep:Nat)(l:List TUnit):AObj:=.row 8 true ep (l.map aY)
noncomputable abbrev OV:AObj:=.row 1 false 0 [.nils]
theorem Dq(s:PStep)(rs:List PStep)(u:TUnit)(h:By (bE s u) false):kD 212 [eU u,.ptr 0 0 0 0,.ptr 1 0 0 0] (aa [jt (s::rs),OV]) (.tuple []) (aa [jt (s::rs),OV]):=by
  have h':bE s u=false:=h
  exact fS Tryz.func212 fun a=>Kp 4 (lq u s)<|Mh h'<|M1 (.frz 2 []) (cp rt rt ti)<|Mf a
theorem J6(s:PStep)(rs:List PStep)(u:TUnit)(h:By (bE s u) true):kD 212 [eU u,.ptr 0 0 0 0,.ptr 1 0 0 0] (aa [jt (s::rs),OV]) (.tuple []) (aa [jt (s::rs),FJ 0 1,BN 0 [u]]):=by
  have h':bE s u=true:=h
  exact PN Tryz.func212<|Kp 4 (lq u s)<|Mt h'<|Mg 7<|M0 (.ren [0,1,3,2] [] [])<|M1 (.frz 3 []) (js rt rt rt ti)<|Mf<|et (aJ<|cK []) (by(simp only[BN,eg,wg,aO];rfl):(aa [AObj.row 1 false 0 [AV.ls ((s::rs).map az)],AObj.row 1 false 0 [AV.slice 2 0 0 1 none],AObj.row 8 true 0 [AV.agg (uLx u)]])=(aa [jt (s::rs),FJ 0 1,BN 0 [u]]))
theorem Ol(s:PStep)(rs:List PStep)(u:TUnit)(ep n:Nat)(l:List TUnit)(h:By (bE s u) false):kD 212 [eU u,.ptr 0 0 0 0,.ptr 1 0 0 0] (aa [jt (s::rs),FJ ep n,BN ep l]) (.tuple []) (aa [jt (s::rs),FJ ep n,BN ep l]):=by
  have h':bE s u=false:=h
  exact fS Tryz.func212 fun a=>Kp 4 (lq u s)<|Mh h'<|M1 (.frz 3 []) (js (tR 8 true ep 3<|aX iZ l) rt rt ti)<|Mf a
theorem Om(s:PStep)(rs:List PStep)(u:TUnit)(ep n:Nat)(l:List TUnit)(h:By (bE s u) true)(hn:n=l.length)(hl:l.length<2^30):kD 212 [eU u,.ptr 0 0 0 0,.ptr 1 0 0 0] (aa [jt (s::rs),FJ ep n,BN ep l]) (.tuple []) (aa [jt (s::rs),FJ (ep+1) (n+1),BN (ep+1) (l++[u])]):=by
  have h':bE s u=true:=h
  let q:=[iV 0,iV 0,iV 0,iV 0,aj [],ab,ab,ab];let q1:=List.map aY l++[ak q];exact fS Tryz.func212 fun a=>Kp 4 (lq u s)<|Mt h'<|Mg 3<|Mw (.apx q1<|.rix<|.rst (ak q) ((l++[u]).map aY)<|.go 0<|.frz 3 [] .fin)<|Yn rt (g0 (tR 8 true ep 4<|aX iZ l) rt) (et (ii _ _:([ak q]:List AV)≠[]) rt) (et (cp (aJ ep) (sA:n=(l.map aY).length) (by(refine ar (m:=2^31) ?_ ?_ ?_<;>(try simp only[lC,lN])<;>omega):small (n+([AV.agg [iV 0,iV 0,iV 0,iV 0,AV.str [],AV.nils,AV.nils,AV.nils]]).length) 120=true))<|aJ q1) (et (aJ<|ep+1) (oA:n<n+1)) rt (g0 (tR 8 true (ep+1) 4 (by exact Xa _ rfl:aq q1=0)) rt) (cp (aJ<|ep+1) (Q6 (f:=aY) (l:=l) (z:=ak q) (oA:n=(l).length))<|Qv (f:=aY) (g:=Go.Ev.eU) aO (l:=l) (z:=ak q) (w:=u) (oA:n=(l).length)) (js (tR 8 true (ep+1) 3<|aX iZ<|l++[u]) rt rt ti) a
theorem H8(s:PStep)(rs:List PStep):∀(u:TUnit),∀(ep n:Nat)(l:List TUnit),n=l.length->l.length+nU u<2^30->kC 211 [eU u,.func (.func 212) [] [.ptr 0 0 0 0,.ptr 1 0 0 0]] (aa [jt (s::rs),FJ ep n,BN ep l])
    (fun v h=>∃y:Nat×Nat×List TUnit,(y.2.1=y.2.2.length/\y.2.2=l++lu s u)/\v=.tuple []/\h=aa [jt (s::rs),FJ y.1 y.2.1,BN y.1 y.2.2]):=by
  refine TUnit.ind fun u ih ep n l hn hl=>?_
  have hq:=jV u
  have hkl:=bm u
  have hp:=zA s u
  rcases Bool.eq_false_or_eq_true (bE s u)with hc|hc
  · rw[hc]at hp
    exact qk Tryz.func211 fun a=>K1 2 (.frz 3 [1,2,6,7]) (js (tR 8 true ep 3<|aX iZ l) rt rt ti)<|Me (Om s rs u ep n l hc hn oA)<|Kl 2 11 (ln aY u.kids)<|Mg 0<|Wh aY u.kids (ep+1) (n+1) (l++[u]) [1,10,11,12] (fun a _ b c d=>([bj (bx 212) [] [bX 0 0 0 0,bX 1 0 0 0],aW<|u.kids.map aY,nV u.kids.length,nV a],[aZ 1 false 0 [aW<|(s::rs).map az],aZ 1 false 0 [aI 2 b 0 c none],aZ 8 true b<|d.map aY])) (fun a _ b c=>b=c.length/\c++dx s a=l++[u]++dx s u.kids/\c.length+eW a<2^30) gR (fun _ _ b c d _ _ _ e _=>Kh 0 e<|Mf<|a (b,c,d)<|by grind[m6]) fun a _ b c d e f g i j k m _ o _=>have o:=(o).trans<|congrArg some<|aO g;have:=c8 (J:=fun a b=>b.2.1=b.2.2.length/\b.2.2++dx s a=l++[u]++dx s u.kids/\b.2.2.length+eW a<2^30) (a:=(b,c,d)) k f;have e:=aN e k;have f:d.length+nU g<2^30:=(by grind[bi]);Kt 0 m<|Mx o<|K1 4 (.frz 3 [1,10,11,12,16,17]) (js (tR 8 true b 3<|aX iZ d) rt rt ti)<|Mq (ih g e b c d oA f) fun b _=>Kl 0 19 (dt a)<|Kf 0<|j b.1 b.2.1 b.2.2<|by grind[bi,gu,mr]
  · rw[hc]at hp
    exact qk Tryz.func211 fun a=>K1 2 (.frz 3 [1,2,6,7]) (js (tR 8 true ep 3<|aX iZ l) rt rt ti)<|Me (Ol s rs u ep n l hc)<|Kl 2 11 (ln aY u.kids)<|Mg 0<|Wh aY u.kids ep n l [1,10,11,12] (fun a _ b c d=>([bj (bx 212) [] [bX 0 0 0 0,bX 1 0 0 0],aW<|u.kids.map aY,nV u.kids.length,nV a],[aZ 1 false 0 [aW<|(s::rs).map az],aZ 1 false 0 [aI 2 b 0 c none],aZ 8 true b<|d.map aY])) (fun a _ b c=>b=c.length/\c++dx s a=l++dx s u.kids/\c.length+eW a<2^30) gR (fun _ _ b c d _ _ _ e _=>Kh 0 e<|Mf<|a (b,c,d)<|by grind[m6]) fun a _ b c d e f g i j k m _ o _=>have o:=(o).trans<|congrArg some<|aO g;have:=c8 (J:=fun a b=>b.2.1=b.2.2.length/\b.2.2++dx s a=l++dx s u.kids/\b.2.2.length+eW a<2^30) (a:=(b,c,d)) k f;have e:=aN e k;have f:d.length+nU g<2^30:=(by grind[bi]);Kt 0 m<|Mx o<|K1 4 (.frz 3 [1,10,11,12,16,17]) (js (tR 8 true b 3<|aX iZ d) rt rt ti)<|Mq (ih g e b c d oA f) fun b _=>Kl 0 19 (dt a)<|Kf 0<|j b.1 b.2.1 b.2.2<|by grind[bi,gu,mr]
theorem H9(s:PStep)(rs:List PStep):∀(u:TUnit),nU u<=2^20->By (lu s u).isEmpty true->kD 211 [eU u,.func (.func 212) [] [.ptr 0 0 0 0,.ptr 1 0 0 0]] (aa [jt (s::rs),OV]) (.tuple []) (aa [jt (s::rs),OV]):=by
  refine TUnit.ind fun u ih hn he=>?_
  have hkl:=bm u
  have hp:=zA s u
  have he':=List.isEmpty_iff.1 (show(lu s u).isEmpty=true from he)
  rw[he']at hp
  rcases Bool.eq_false_or_eq_true (bE s u)with hc|hc
  · grind
  · rw[hc]at hp
    have hp:dx s u.kids=[]:=hp.symm
    exact fS Tryz.func211 fun a=>K1 2 (.frz 2 [1,2,6,7]) (cp rt rt ti)<|Me (Dq s rs u hc)<|Kl 2 11 (ln aY u.kids)<|Mg 0<|td aY u.kids [1,10,11,12] (fun a _=>([bj (bx 212) [] [bX 0 0 0 0,bX 1 0 0 0],aW<|u.kids.map aY,nV u.kids.length,nV a],[aZ 1 false 0 [aW<|(s::rs).map az],aZ 1 false 0 [ab]])) (fun a=>dx s a=[]) oA (fun _ _ _ _ _ b _=>Kh 0 b<|Mf a) fun a _ b _ c d e f g _ h i=>have h:=h.trans<|congrArg some<|aO c;have j:=aN b f;have b:=bO (oS<|iC<|aN b f) hn;have f:(lu s c).isEmpty=true:=(by rw[gu]at i;rw[(List.append_eq_nil_iff.1 i).1];rfl);Kt 0 g<|Mx h<|K1 4 (.frz 2 [1,10,11,12,16,17]) (cp rt rt ti)<|Me (ih c j b f)<|Kl 0 19 (dt a)<|Kf 0<|e<|by grind[gu]
theorem Sm(s:PStep)(rs:List PStep):∀(u:TUnit),nU u<=2^20->By (lu s u).isEmpty false->kC 211 [eU u,.func (.func 212) [] [.ptr 0 0 0 0,.ptr 1 0 0 0]] (aa [jt (s::rs),OV])
    (fun v h=>∃y:Nat×Nat×List TUnit,(y.2.1=y.2.2.length/\y.2.2=lu s u)/\v=.tuple []/\h=aa [jt (s::rs),FJ y.1 y.2.1,BN y.1 y.2.2]):=by
  refine TUnit.ind fun u ih hn he=>?_
  have hq:=jV u
  have hkl:=bm u
  have hp:=zA s u
  rcases Bool.eq_false_or_eq_true (bE s u)with hc|hc
  · rw[hc]at hp
    exact qk Tryz.func211 fun a=>K1 2 (.frz 2 [1,2,6,7]) (cp rt rt ti)<|Me (J6 s rs u hc)<|Kl 2 11 (ln aY u.kids)<|Mg 0<|Wh aY u.kids (0:Nat) (1:Nat) ([u]:List TUnit) [1,10,11,12] (fun a _ b c d=>([bj (bx 212) [] [bX 0 0 0 0,bX 1 0 0 0],aW<|u.kids.map aY,nV u.kids.length,nV a],[aZ 1 false 0 [aW<|(s::rs).map az],aZ 1 false 0 [aI 2 b 0 c none],aZ 8 true b<|d.map aY])) (fun a _ b c=>b=c.length/\c++dx s a=[u]++dx s u.kids/\c.length+eW a<2^30) gR (fun _ _ b c d _ _ _ e _=>Kh 0 e<|Mf<|a (b,c,d)<|by grind[m6]) fun a _ b c d e f g i j k l _ m _=>have m:=(m).trans<|congrArg some<|aO g;have:=c8 (J:=fun a b=>b.2.1=b.2.2.length/\b.2.2++dx s a=[u]++dx s u.kids/\b.2.2.length+eW a<2^30) (a:=(b,c,d)) k f;have:=aN e k;have e:d.length+nU g<2^30:=(by grind[bi]);Kt 0 l<|Mx m<|K1 4 (.frz 3 [1,10,11,12,16,17]) (js (tR 8 true b 3<|aX iZ d) rt rt ti)<|Mq (H8 s rs g b c d oA e) fun b _=>Kl 0 19 (dt a)<|Kf 0<|j b.1 b.2.1 b.2.2<|by grind[bi,gu,mr]
  · rw[hc]at hp
    have hne:dx s u.kids≠[]:=fun e=>by
      simp_all
    exact qk Tryz.func211 fun a=>K1 2 (.frz 2 [1,2,6,7]) (cp rt rt ti)<|Me (Dq s rs u hc)<|Kl 2 11 (ln aY u.kids)<|Mg 0<|kR Nat Nat (List TUnit) aY u.kids [1,10,11,12] (fun a _=>([bj (bx 212) [] [bX 0 0 0 0,bX 1 0 0 0],aW<|u.kids.map aY,nV u.kids.length,nV a],[aZ 1 false 0 [aW<|(s::rs).map az],aZ 1 false 0 [ab]])) (fun a _ b c d=>([bj (bx 212) [] [bX 0 0 0 0,bX 1 0 0 0],aW<|u.kids.map aY,nV u.kids.length,nV a],[aZ 1 false 0 [aW<|(s::rs).map az],aZ 1 false 0 [aI 2 b 0 c none],aZ 8 true b<|d.map aY])) (fun a=>a≠[]/\dx s a=dx s u.kids) (fun a _ b c=>b=c.length/\c++dx s a=dx s u.kids/\c.length+eW a<2^30) (by(exact⟨LD rfl hne,rfl⟩)) (fun _ _ _ _ _ _ _=>Mw .abs (sA:False)) (fun a _ b c d f g i j k _ l _=>have l:=(l).trans<|congrArg some<|aO d;have:=c8 (J:=fun a _=>a≠[]/\dx s a=dx s u.kids) (a:=()) j c;have c:=aN b j;have m:=bO (oS<|iC<|aN b j) hn;have:nU d+eW f<=2^20:=(by have z:=pQ b j;omega);Kt 0 k<|Mx l<|K1 4 (.frz 2 [1,10,11,12,16,17]) (cp rt rt ti)<|Ms (lu s d).isEmpty (fun b=>Me (H9 s rs d m b)<|Kl 0 19 (dt a)<|Kf 0<|g<|by(have e:dx s f=dx s u.kids:=(by grind[gu]);exact⟨LD e hne,e⟩)) fun b=>Mq (ih d c m b) fun b _=>Kl 0 19 (dt a)<|Kf 0<|i b.1 b.2.1 b.2.2<|by grind[gu,mr]) (fun _ _ b c d _ _ _ f g=>Kh 0 f<|Mf<|a (b,c,d)<|by(refine⟨g.1,?_⟩;have:=g.2.1;rw[m6,ef]at this;simp_all)) fun a _ b c d f g i j _ k l m _ n _=>have n:=(n).trans<|congrArg some<|aO i;have:=c8 (J:=fun a b=>b.2.1=b.2.2.length/\b.2.2++dx s a=dx s u.kids/\b.2.2.length+eW a<2^30) (a:=(b,c,d)) l g;have:=aN f l;have:=bO (oS<|iC<|aN f l) hn;have:nU i+eW j<=2^20:=(by have z:=pQ f l;omega);Kt 0 m<|Mx n<|K1 4 (.frz 3 [1,10,11,12,16,17]) (js (tR 8 true b 3<|aX iZ d) rt rt ti)<|Mq (H8 s rs i b c d oA<|by grind[bi]) fun b _=>Kl 0 19 (dt a)<|Kf 0<|k b.1 b.2.1 b.2.2<|by grind[gu,mr]
theorem Vp(u:TUnit)(hb:kO []=true):kP 146 [eU u,.ls (([]:List PStep).map az)] (.ls ((eQ u []).map aY)):=by
  have hv:=vb [] (by simp) (fun s h=>by grind)
  rw[Hi hb]
  have rr0 b' (h:(List.map aY [u])=b':=by(rw[eg,aO];rfl)):=h;let q:=[ak (uLx u)];exact bp Tryz.func146<|Kp 3 hv<|Kf 10 (Le.lsp (rr0 q)<|by rfl:Le _ (AV.ps q true))
def Ho(u:TUnit)(s:PStep)(rs:List PStep)(z1000:List TUnit):Prop:=eQ u (s::rs)=gd rs z1000/\eW z1000<=2^22
noncomputable def Hn(u:TUnit)(s:PStep)(rs:List PStep)(z1000:List TUnit):List AV×List AObj:=([AV.ptr 0 0 0 0,AV.ptr 1 0 0 0],[AObj.row 1 false 0 [AV.ls ((s::rs).map az)],AObj.row 1 false 0 [AV.ls (z1000.map aY)]])
theorem R9(u:TUnit)(s:PStep)(rs:List PStep)(hn:nU u<=2^11)(hl:(s::rs).length<2^40)(hs:∀x,x∈s::rs->x.label.length<=2^39):kP 146 [eU u,.ls ((s::rs).map az)] (.ls ((eQ u (s::rs)).map aY)):=by
  have hv:=vb (s::rs) hl hs
  have hk:=IF s
  have hpb:=GM s u fun x hx=>dD hx
  have hpm:nU u*nU u<=2^11*2^11:=Nat.mul_le_mul hn hn
  have hd:((s::rs).drop 1).length=rs.length:=rfl
  have rr0 b' (h:((eQ u (s::rs)).map aY)=b':=by first|rfl|(rw[J4 ‹_›];rfl)|(rw[hj0.1,JV])):=h;exact bp Tryz.func146<|Kp 3 hv<|Kn 0 (kO<|s::rs) (fun _=>Kf 0 (Le.lsn<|rr0 []:Le _ (ab))) fun _=>Mg 0<|Mj (List TUnit) [3,5] (Hn u s rs) (Ho u s rs) (fun a=>Kl 1 21 (ln az<|s::rs)<|Kp 5 hk<|Kb 0 (ay s.kind 0&&dM s.label []) (fun _=>Kl 1 31 (Le.lsp (t:=true) (Eq.symm<|UT (f:=aY) (g:=Go.Ev.eU) (ws:=[u]) aO) (aJ 0:aq ([ak (uLx u)])=0))<|Mg 0<|M0 (.ren [1,2,0] [] [3,5])<|M1 (.frz 2 [3,5]) (cp rt rt ti)<|Mf<|a [u] (by exact⟨Hl (by omega) (by assumption),by grind[bi,mc]⟩:eQ u (s::rs)=gd rs [u]/\eW [u]<=2^22)) fun _=>Mg 1<|M0 (.ren [1,2,0] [] [3,5,16,17])<|M1 (.frz 2 [3,5,16,17]) (cp rt rt ti)<|Ms (lu s u).isEmpty (fun b=>Me (H9 s rs u oA b)<|M1 (.obw 1<|aW []) (XF bD rfl rfl)<|Mf<|a [] (by exact⟨by rw[xk (by omega) (by assumption),List.isEmpty_iff.1 b],by grind⟩:eQ u (s::rs)=gd rs []/\eW []<=2^22)) fun b=>Mq (Sm s rs u oA b) fun b c=>M2 (.fzo 1 2 [3,5]<|b.2.2.map aY) (cp rt rt ti) (cp (aJ b.1) (tA aY b.2.2 b.2.1 (oA:(b.2.2).length=b.2.1))<|aX iZ b.2.2)<|Mf<|a b.2.2 (by exact⟨by rw[xk (by omega) (by assumption),c.2],by grind⟩:eQ u (s::rs)=gd rs b.2.2/\eW b.2.2<=2^22)) fun a b=>have:eQ u (s::rs)=gd rs a/\eW a<=2^22:=b;K1 0 (.slp<|((s::rs).drop 1).map az) (cp (hM 2 az (s::rs) fun _=>rfl) (et (sA:1<=((s::rs).map az).length) (oA:((s::rs).map az).length<=((s::rs).map az).length))<|Zb (f:=az) (l:=s::rs) (k:=1))<|Kl 0 34 (ln az<|List.drop 1<|s::rs)<|Mg 0<|M0 (.ren [1,0] [] [5,33,34,35])<|M1 (.frz 1 [5,33,34,35]) (et rt ti)<|Pm az (List.drop 1<|s::rs) a [5,33,34,35] (fun a _ b=>([bX 0 0 0 0,aW<|((s::rs).drop 1).map az,nV ((s::rs).drop 1).length,nV a],[aZ 1 false 0 [aW<|b.map aY]])) (fun a b=>eQ u (s::rs)=gd a b/\eW b<=2^22) sA (fun _ _ a _ _ _ b hj0=>Kh 0 b<|Kf 1<|cY<|rr0<|a.map aY) fun a _ b _ _ c d e _ f _ g hj0=>have:b.length<=eW b:=yw _;Kt 0 f<|Mx g<|Kl 5 40 (ln aY b)<|Mg 0<|kR Nat Nat (List TUnit) aY b [5,7,8,33,34,35,39,40,41] (fun d _=>([bX 0 0 0 0,bX 1 0 0 0,ab,aW<|((s::rs).drop 1).map az,nV ((s::rs).drop 1).length,nV a,aW<|b.map aY,nV b.length,nV d],[aZ 1 false 0 [aW<|b.map aY],aZ 2 false 0 [ak [iV c.kind,aj c.label]]])) (fun d _ e f g=>([bX 0 0 0 0,bX 1 0 0 0,aI 2 e 0 f none,aW<|((s::rs).drop 1).map az,nV ((s::rs).drop 1).length,nV a,aW<|b.map aY,nV b.length,nV d],[aZ 1 false 0 [aW<|b.map aY],aZ 2 false 0 [ak [iV c.kind,aj c.label]],aZ 8 true e<|g.map aY])) (fun a=>cC c a=cC c b) (fun a _ d e=>d=e.length/\e++cC c a=cC c b/\e.length+eW a<2^30) (by rfl) (fun _ _ _ _ _ b c=>Kh 0 b<|Kl 0 61 bD<|Kl 1 62 (dt a)<|K1 0 (.frz 1 [5,33,34,35]) (et rt ti)<|Mf<|e []<|by exact fA hj0 c) (fun d _ e f g i j k l n _ o _=>have p:=(o).trans<|congrArg some<|aO g;have:=c8 (J:=fun a _=>cC c a=cC c b) (a:=()) l f;have:nU g+eW i<=eW b:=pQ e l;have:g.kids.length<nU g:=bm g;have:nU g=1+eW g.kids:=jV g;Kt 0 n<|Mx p<|Kl 5 47 (ln aY g.kids)<|K1 0 (.frz 2 [5,7,8,33,34,35,39,40,41,46,47,48]) (cp rt rt ti)<|kR Nat Nat (List TUnit) aY g.kids [5,7,8,33,34,35,39,40,41,46,47,48] (fun e _=>([bX 0 0 0 0,bX 1 0 0 0,ab,aW<|((s::rs).drop 1).map az,nV ((s::rs).drop 1).length,nV a,aW<|b.map aY,nV b.length,nV d,aW<|g.kids.map aY,nV g.kids.length,nV e],[aZ 1 false 0 [aW<|b.map aY],aZ 2 false 0 [ak [iV c.kind,aj c.label]]])) (fun e _ f i j=>([bX 0 0 0 0,bX 1 0 0 0,aI 2 f 0 i none,aW<|((s::rs).drop 1).map az,nV ((s::rs).drop 1).length,nV a,aW<|b.map aY,nV b.length,nV d,aW<|g.kids.map aY,nV g.kids.length,nV e],[aZ 1 false 0 [aW<|b.map aY],aZ 2 false 0 [ak [iV c.kind,aj c.label]],aZ 8 true f<|j.map aY])) (fun a=>List.filter (bE c) a++cC c i=cC c b) (fun a _ d e=>d=e.length/\e++(List.filter (bE c) a++cC c i)=cC c b/\e.length+(eW a+eW i)<2^30) (by simp_all[gA]) (fun _ _ _ _ _ a _=>Kh 0 a<|Kl 0 60 (dt d)<|Kf 0<|j sA) (fun a _ d e f j k l n p _ o _=>have o:=(o).trans<|congrArg some<|aO f;have:=c8 (J:=fun a _=>List.filter (bE c) a++cC c i=cC c b) (a:=()) n e;have:nU f+eW j<=eW g.kids:=pQ d n;Kt 0 p<|Mx o<|Kp 4 (lq f c)<|Mb (bE c f) (fun _=>K1 3 (.obj 3<|aZ 8 true 0<|List.map aY [f]) (congrArg (aZ 8 true 0)<|UT (f:=aY) (g:=Go.Ev.eU) (ws:=[f]) aO)<|Kl 1 59 (dt a)<|K1 0 (.ren [0,1,3,2] [3] [5,7,8,33,34,35,39,40,41,46,47,48]) (tS 8 true 0<|aX iZ [f])<|M1 (.frz 3 [5,7,8,33,34,35,39,40,41,46,47,48]) (js (tR 8 true 0 3<|aX iZ [f]) rt rt ti)<|Mf<|l 0 1 [f] gR) fun _=>Kl 0 59 (dt a)<|K1 0 (.frz 2 [5,7,8,33,34,35,39,40,41,46,47,48]) (cp rt rt ti)<|Mf<|k sA) (fun _ _ a e f _ _ _ g _=>Kh 0 g<|Kl 0 60 (dt d)<|Kf 0<|k a e f gR) fun a _ d e f j k l n _ p q r _ o _=>have o:=(o).trans<|congrArg some<|aO l;have k:=c8 (J:=fun a d=>d.2.1=d.2.2.length/\d.2.2++(List.filter (bE c) a++cC c i)=cC c b/\d.2.2.length+(eW a+eW i)<2^30) (a:=(d,e,f)) q k;have:nU l+eW n<=eW g.kids:=pQ j q;Kt 0 r<|Mx o<|Kp 4 (lq l c)<|Mb (bE c l) (fun _=>K1 2 .app (cp (aJ d) (sA:e=(f.map aY).length) (by(refine ar (m:=2^31) ?_ ?_ ?_<;>omega):small (e+1) 120=true))<|M1 (.obj 2<|aZ 8 true (d+1)<|(f++[l]).map aY) (congrArg (aZ 8 true<|d+1)<|ya (f:=aY) (g:=Go.Ev.eU) (l:=f) (ws:=[l]) aO)<|Kl 1 59 (dt a)<|K1 0 (.frz 3 [5,7,8,33,34,35,39,40,41,46,47,48]) (js (tR 8 true (d+1) 3<|aX iZ<|f++[l]) rt rt ti)<|Mf<|p (d+1) (e+1) (f++[l])<|by exact hB1 k (by omega)) fun _=>Kl 0 59 (dt a)<|K1 0 (.frz 3 [5,7,8,33,34,35,39,40,41,46,47,48]) (js (tR 8 true d 3<|aX iZ f) rt rt ti)<|Mf<|p d e f<|by exact hB0 k (by omega)) (fun _ _ b c f _ _ _ g i=>let j:=List.map aY f;Kh 0 g<|Mg 0<|M2 (.fsl 2 [5,33,34,35] 61 j) (cp rt rt ti) (cp (aJ b) (tA aY f c (oA:(f).length=c))<|aX iZ f)<|Ml 61 (eP j false<|aX iZ f)<|Kl 1 62 (dt a)<|K1 0 (.frz 1 [5,33,34,35]) (et rt ti)<|Mf<|e f<|by exact fB hj0 i.2.1) fun d _ e f g i j k l _ n o p _ q _=>have r:=(q).trans<|congrArg some<|aO k;have j:=c8 (J:=fun a d=>d.2.1=d.2.2.length/\d.2.2++cC c a=cC c b/\d.2.2.length+eW a<2^30) (a:=(e,f,g)) o j;have:nU k+eW l<=eW b:=pQ i o;have:k.kids.length<nU k:=bm k;have:nU k=1+eW k.kids:=jV k;Kt 0 p<|Mx r<|Kl 5 47 (ln aY k.kids)<|K1 0 (.frz 3 [5,7,8,33,34,35,39,40,41,46,47,48]) (js (tR 8 true e 3<|aX iZ g) rt rt ti)<|Wh aY k.kids e f g [5,7,8,33,34,35,39,40,41,46,47,48] (fun e _ f g i=>([bX 0 0 0 0,bX 1 0 0 0,aI 2 f 0 g none,aW<|((s::rs).drop 1).map az,nV ((s::rs).drop 1).length,nV a,aW<|b.map aY,nV b.length,nV d,aW<|k.kids.map aY,nV k.kids.length,nV e],[aZ 1 false 0 [aW<|b.map aY],aZ 2 false 0 [ak [iV c.kind,aj c.label]],aZ 8 true f<|i.map aY])) (fun a _ d e=>d=e.length/\e++(List.filter (bE c) a++cC c l)=cC c b/\e.length+(eW a+eW l)<2^30) (by(exact gB j)) (fun _ _ a e f _ _ _ g _=>Kh 0 g<|Kl 0 60 (dt d)<|Kf 0<|n a e f gR) fun a _ d e f g i j n o p r _ q _=>have q:=(q).trans<|congrArg some<|aO j;have i:=c8 (J:=fun a d=>d.2.1=d.2.2.length/\d.2.2++(List.filter (bE c) a++cC c l)=cC c b/\d.2.2.length+(eW a+eW l)<2^30) (a:=(d,e,f)) p i;have:nU j+eW n<=eW k.kids:=pQ g p;Kt 0 r<|Mx q<|Kp 4 (lq j c)<|Mb (bE c j) (fun _=>K1 2 .app (cp (aJ d) (sA:e=(f.map aY).length) (by(refine ar (m:=2^31) ?_ ?_ ?_<;>omega):small (e+1) 120=true))<|M1 (.obj 2<|aZ 8 true (d+1)<|(f++[j]).map aY) (congrArg (aZ 8 true<|d+1)<|ya (f:=aY) (g:=Go.Ev.eU) (l:=f) (ws:=[j]) aO)<|Kl 1 59 (dt a)<|K1 0 (.frz 3 [5,7,8,33,34,35,39,40,41,46,47,48]) (js (tR 8 true (d+1) 3<|aX iZ<|f++[j]) rt rt ti)<|Mf<|o (d+1) (e+1) (f++[j])<|by exact hB1 i (by omega)) fun _=>Kl 0 59 (dt a)<|K1 0 (.frz 3 [5,7,8,33,34,35,39,40,41,46,47,48]) (js (tR 8 true d 3<|aX iZ f) rt rt ti)<|Mf<|o d e f<|by exact hB0 i (by omega)
theorem Vo(u:TUnit)(p:List PStep)(hn:nU u<=2^11)(hl:p.length<2^40)(hs:∀x,x∈p->x.label.length<=2^39):kP 146 [eU u,.ls (p.map az)] (.ls ((eQ u p).map aY)):=by
  cases p with
  |nil=>exact Vp u rfl
  |cons s rs=>grind[R9]
theorem OA(u:TUnit)(p:List PStep)(L:List TUnit)(hf:kP 146 [eU u,.ls (p.map az)] (.ls (L.map aY)))(hL:L.length<=2^22):kP 103 [eU u,.ls (p.map az)] (.ls ((L.map au).map aK)):=by
  have rr0 b' (h:((L.map au).map aK)=b':=by first|rfl|(rw[<-hj0];rfl)|(rw[<-hj0.2.2.1];simp)):=h;exact bp Tryz.func103<|Kp 4 hf<|Kl 0 11 (ln aY L)<|K1 0 (.frz 0 [5,10,11,12]) ti<|kR Nat Nat (List PId) aY L [5,10,11,12] (fun a _=>([ab,aW<|L.map aY,nV L.length,nV a],[])) (fun a _ b c d=>([aI 0 b 0 c none,aW<|L.map aY,nV L.length,nV a],[aZ 3 true b<|d.map aK])) (fun a=>a=L) (fun a _ b c=>b=c.length/\(0:Nat)<c.length/\c++List.map au a=List.map au L/\c.length+a.length=L.length) (by rfl) (fun _ _ _ _ _ a hj0=>Kh 0 a<|Kf 1 (Le.lsn<|rr0 []:Le _ (ab))) (fun a _ _ b c d _ e f g _ i _=>have i:=(i).trans<|congrArg some<|aO c;have hj0:=c8 (J:=fun a _=>a=L) (a:=()) f b;Kt 0 g<|Mx i<|Kl 9 21 (i7 a)<|Mg 0<|M0 (.ren [1,0] [] [5,10,11,12])<|M1 (.frz 1 [5,10,11,12]) (et rt ti)<|Mf<|e 0 1 [PId.mk c.act c.item c.n]<|by(refine⟨rfl,by simp,?_,?_⟩<;>(rw[<-hj0])<;>(first|rfl|grind))) (fun _ _ a b c _ _ _ d hj0=>Kh 0 d<|Mg 1<|M2 (.fsl 0 [] 4<|c.map aK) ti (cp (aJ a) (tA aK c b (oA:(c).length=b))<|aX Kg c)<|Ml 4 (eP (c.map aK) false<|aX Kg c)<|Mf<|cY<|rr0<|c.map aK) fun a _ b c d _ e f g _ i j k _ l _=>have l:=(l).trans<|congrArg some<|aO f;have hj0:=c8 (J:=fun a b=>b.2.1=b.2.2.length/\(0:Nat)<b.2.2.length/\b.2.2++List.map au a=List.map au L/\b.2.2.length+a.length=L.length) (a:=(b,c,d)) j e;Kt 0 k<|Mx l<|K1 6 .app (cp (aJ b) (sA:c=(d.map aK).length) (by(refine ar (m:=2^25) ?_ ?_ ?_<;>omega):small (c+1) 24=true))<|M1 (.obj 0<|aZ 3 true (b+1)<|(d++[PId.mk f.act f.item f.n]).map aK) (congrArg (aZ 3 true<|b+1)<|dK (f:=aK) (l:=d) (ws:=[PId.mk f.act f.item f.n]))<|Kl 1 21 (i7 a)<|K1 0 (.frz 1 [5,10,11,12]) (et (tR 3 true (b+1) 1<|aX Kg<|d++[PId.mk f.act f.item f.n]) ti)<|Mf<|i (b+1) (c+1) (d++[PId.mk f.act f.item f.n])<|by(refine⟨by simp_all,by simp,?_,?_⟩<;>first|(rw[<-hj0.2.2.1,eg,jy];rfl)|(rw[<-hj0.2.2.1];simp;done)|grind)
theorem Oo(u:TUnit)(p:List PStep)(hf:kP 103 [eU u,.ls (p.map az)] (.ls (([]:List PId).map aK))):kP 75 [eU u,.ls (p.map az)] (.tuple [aK bT,iV 7]):=by
  exact bp Tryz.func75<|Kp 4 hf<|Kf 8<|bw<|cK [ak [iV 0,iV 0,iV 0],iV 7]
theorem Ou(u x:TUnit)(p:List PStep)(hf:kP 103 [eU u,.ls (p.map az)] (.ls ([au x].map aK))):kP 75 [eU u,.ls (p.map az)] (.tuple [aK (au x),iV 0]):=by
  exact bp Tryz.func75<|Kp 4 hf<|Kf 13<|bw<|cK [ak [iV (au x).a,iV (au x).i,iV (au x).n],iV 0]
theorem Ot(u:TUnit)(p:List PStep)(a b:PId)(r:List PId)(hf:kP 103 [eU u,.ls (p.map az)] (.ls ((a::b::r).map aK))):kP 75 [eU u,.ls (p.map az)] (.tuple [aK bT,iV 8]):=by
  have q1:ay (Int.ofNat (r.length+1+1)) 0=false:=rfl
  have q2:ay (Int.ofNat (r.length+1+1)) 1=false:=rfl
  exact bp Tryz.func75<|Kp 4 hf<|Kl 2 11 (ln aK<|a::b::r)<|Kf 8<|bw<|cK [ak [iV 0,iV 0,iV 0],iV 8]
theorem On(u:TUnit)(p:List PStep)(hf:kP 146 [eU u,.ls (p.map az)] (.ls ((eQ u p).map aY)))(hn:nU u<=2^11):kP 75 [eU u,.ls (p.map az)] (.tuple [aK (an u p).1,iV (an u p).2]):=by
  have ha:=OA u p (eQ u p) hf (J3 p hn)
  cases e:eQ u p with
  |nil=>grind[HA,Oo]
  | cons x r=>
    cases r with
    |nil=>grind[Hu,Ou]
    |cons y r=>grind[Ht,Ot]
noncomputable abbrev zU:AV:=.agg [iV 0,iV 0,iV 0,iV 0,.str [],.nils,.nils,.nils]
noncomputable abbrev dG(xs:List AV):AObj:=.row 8 false 0 xs
theorem VR{L Z:List AV}{n i:Nat}(hn:L.length=n)(hi:i<n):((L++Z).drop (i+1)).take (n-(i+1))=L.drop (i+1):=by
  grind
theorem VS{L Z:List AV}{n i:Nat}(hn:L.length=n)(hi:i<n):bM (L++Z) (0+i) (L.drop (i+1))=L.eraseIdx i++(L.drop (n-1)++Z):=by
  unfold bM
  grind
theorem FZ{L Z:List AV}{z:AV}{n i:Nat}(hn:L.length=n)(hi:i<n):bM (L.eraseIdx i++(L.drop (n-1)++Z)) (n-1) (List.replicate 1 z)=L.eraseIdx i++(z::Z):=by
  unfold bM
  have h1:(L.eraseIdx i).length=n-1:=by grind
  have h2:(L.drop (n-1)).length=1:=by grind
  grind
theorem ZD{a b:Nat}(h:a≠b):ay (Int.ofNat a) (Int.ofNat b)=false:=by
  grind[pg]
theorem SB(L Z:List AV)(n k i:Nat)(hi:i+1<n)(hn:L.length=n)(hs:n<=2^20)(hf:dA 8 L=true)(hZ:Z.length=k)(hT:aq (L++Z)=0):kD 228 [.slice 0 0 0 n (some (n+k)),nV i,nV (i+1)] (aa [dG (L++Z)]) (.slice 0 0 0 (n-1) (some (n+k))) (aa [dG (L.eraseIdx i++(zU::Z))]):=by
  have hq:ay (Int.ofNat i) (Int.ofNat (i+1))=false:=ZD (by omega)
  let q:=AHeap.mk 1000000 (bF (aa [aZ 8 false 0 (L++Z)]) ([0]) Tr.nil);let q1:=aa [aZ 8 false 0 (L.eraseIdx i++(L.drop (n-1)++Z))];let q2:=aa [aZ 8 false 0 (L++Z)];let q3:=(some (aI 0 0 0 n (some (n+k))));let q4:=aI 0 0 (i+1) (n-(i+1)) (some (n+k-(i+1)));let q5:=(some (nV (i+1)));let q6:=(some (nV i));let q7:=(some (nV n));let q8:=AHeap.mk 1 (bF q2 ([0,0]) Tr.nil);let q9:=aI 0 0 0 (n-1) (some (n+k));let q10:=aI 0 0 (n-1) 1 (some (k+1));let q11:=aI 0 0 0 i (some (n+k));exact fS Tryz.func228 fun a=>Ko 5 (by exact EX (xs:=L++Z) (l:=i) (h:=i+1) (m:=n) (by kernel_rfl) (by rfl) (by rfl) (by rfl) (by omega) (by omega) (by omega) (by omega) (by omega) (by omega) (by omega):bc q2 (dq (8) q2 q3 q6 q5 q7)=some (ARes.val (AV.slice 0 0 i 1 (some (n-i))) q2))<|Kh 2 hq<|Kv 4 (by exact iq (xs:=L++Z) (l:=0) (h:=i) (by kernel_rfl) (by rfl) (by rfl) (by omega) (by omega) (by omega) (by omega) (by omega) (by omega):bc (q) (dq (8) (q) q3 (none) q6 (none))=some (ARes.val q11 q))<|Kv 1 (by exact iq (xs:=L++Z) (l:=i+1) (h:=n) (by kernel_rfl) (by rfl) (by rfl) (by omega) (by omega) (by omega) (by omega) (by omega) (by omega):bc (q) (dq (8) (q) q3 q5 (none) (none))=some (ARes.val q4 q))<|Md rt (g0 (tR 8 false 0 1 (oA:aq (L++Z)=0))<|g0 (tR 8 false 0 1 (oA:aq (L++Z)=0)) rt) (by exact Nb (new:=L.drop (i+1)) rfl (zj rfl (VR hn (by omega))) (rD hf) (fun e=>by have:=congrArg List.length e;grind) (by grind) (by grind) (ar (m:=2^20) (by grind) (by omega) (by omega)) (by grind) (VS hn (by omega)):fq (dc (8) (120) (q8) ((some q11)) ((some q4)))=some (ARes.val q9 (AHeap.put q8 0 (AObj.row 8 false 0 (L.eraseIdx i++(L.drop (n-1)++Z))))))<|Ko 4 (by exact iq (xs:=L.eraseIdx i++(L.drop (n-1)++Z)) (l:=n-1) (h:=n) (by kernel_rfl) (by rfl) (by rfl) (by omega) (by omega) (by omega) (by omega) (by omega) (by omega):bc q1 (dq (8) q1 ((some q9)) ((some (nV (n-1)))) q7 (none))=some (ARes.val q10 q1))<|Mo (by exact KD rfl (by kernel_rfl) (FZ hn (by omega)):fq (wj (8) (AV.agg [iV 0,iV 0,iV 0,iV 0,AV.str [],AV.nils,AV.nils,AV.nils]) q1 ((some q10)))=some (ARes.val (AV.tuple []) (aa [AObj.row 8 false 0 (L.eraseIdx i++zU::Z)])))<|Kf 1 a
theorem SA(L Z:List AV)(k i:Nat)(hn:L.length=i+1)(hs:i<2^20)(hk:0<k)(hZ:Z.length=k)(hT:aq (L++Z)=0):kD 228 [.slice 0 0 0 (i+1) (some (i+1+k)),nV i,nV (i+1)] (aa [dG (L++Z)]) (.slice 0 0 0 i (some (i+1+k))) (aa [dG (L.eraseIdx i++(zU::Z))]):=by
  have hq:ay (Int.ofNat i) (Int.ofNat (i+1))=false:=ZD (by omega)
  have hr:L.eraseIdx i++(L.drop (i+1-1)++Z)=L++Z:=by
    rw[Pp,Fm (by omega),ef,<-jy,show i+1-1=i from rfl,LZ]
  have hc:bM (L++Z) i (List.replicate 1 zU)=L.eraseIdx i++(zU::Z):=by
    have h:=FZ (z:=zU) (Z:=Z) hn (show i<i+1 by omega)
    grind
  let q:=aa [aZ 8 false 0 (L++Z)];let q1:=AHeap.mk 1000000 (bF q ([0]) Tr.nil);let q2:=(some (nV (i+1)));let q3:=aI 0 0 0 i (some (i+1+k));let q4:=(some (aI 0 0 0 (i+1) (some (i+1+k))));let q5:=(some (nV i));let q6:=AHeap.mk 1 (bF q ([0,0]) Tr.nil);let q7:=aI 0 0 (i+1) 0 (some k);let q8:=aI 0 0 i 1 (some (k+1));exact fS Tryz.func228 fun a=>Ko 5 (by exact EX (xs:=L++Z) (l:=i) (h:=i+1) (m:=i+1) (by kernel_rfl) (by rfl) (by rfl) (by rfl) (by omega) (by omega) (by omega) (by omega) (by omega) (by omega) (by omega):bc q (dq (8) q q4 q5 q2 q2)=some (ARes.val (AV.slice 0 0 i 1 (some 1)) q))<|Kh 2 hq<|Kv 4 (by exact iq (xs:=L++Z) (l:=0) (h:=i) (by kernel_rfl) (by rfl) (by rfl) (by omega) (by omega) (by omega) (by omega) (by omega) (by omega):bc (q1) (dq (8) (q1) q4 (none) q5 (none))=some (ARes.val q3 q1))<|Kv 1 (by exact iq (xs:=L++Z) (l:=i+1) (h:=i+1) (by kernel_rfl) (by rfl) (by rfl) (by omega) (by omega) (by omega) (by omega) (by omega) (by omega):bc (q1) (dq (8) (q1) q4 q2 (none) (none))=some (ARes.val q7 q1))<|Md rt (g0 (tR 8 false 0 1 (oA:aq (L++Z)=0))<|g0 (tR 8 false 0 1 (oA:aq (L++Z)=0)) rt) (by exact TK (zj rfl CU):fq (dc (8) (120) (q6) ((some q3)) ((some q7)))=some (ARes.val q3 q6))<|Ko 4 (by exact iq (xs:=L++Z) (l:=i) (h:=i+1) (by kernel_rfl) (by rfl) (by rfl) (by omega) (by omega) (by omega) (by omega) (by omega) (by omega):bc q (dq (8) q ((some q3)) q5 q2 (none))=some (ARes.val q8 q))<|Mo (by exact KD rfl (by kernel_rfl) hc:fq (wj (8) (AV.agg [iV 0,iV 0,iV 0,iV 0,AV.str [],AV.nils,AV.nils,AV.nils]) q ((some q8)))=some (ARes.val (AV.tuple []) (aa [AObj.row 8 false 0 (L.eraseIdx i++zU::Z)])))<|Kf 1 a
theorem Su(L:List AV)(i:Nat)(hn:L.length=i+1)(hs:i<2^20)(hT:aq L=0):kD 228 [.slice 0 0 0 (i+1) (some (i+1)),nV i,nV (i+1)] (aa [dG L]) (.slice 0 0 0 i (some (i+1))) (aa [dG (L.eraseIdx i++[zU])]):=by
  have hq:ay (Int.ofNat i) (Int.ofNat (i+1))=false:=ZD (by omega)
  have hr:L.eraseIdx i++(L.drop (i+1-1)++[])=L:=by
    rw[Pp,Fm (by omega),ef,ef,show i+1-1=i from rfl,LZ]
  have hc:bM L i (List.replicate 1 zU)=L.eraseIdx i++[zU]:=by
    have h:=FZ (z:=zU) (Z:=[]) hn (show i<i+1 by omega)
    grind
  let q:=aa [aZ 8 false 0 L];let q1:=AHeap.mk 1000000 (bF q ([0]) Tr.nil);let q2:=(some (nV (i+1)));let q3:=aI 0 0 0 i (some (i+1));let q4:=(some (aI 0 0 0 (i+1) (some (i+1))));let q5:=(some (nV i));let q6:=aI 0 0 i 1 (some 1);let q7:=AHeap.mk 1 (bF q ([0,0]) Tr.nil);let q8:=aI 0 0 0 0 (some 0);exact fS Tryz.func228 fun a=>Ko 5 (by exact EX (xs:=L) (l:=i) (h:=i+1) (m:=i+1) (by kernel_rfl) (by rfl) (by rfl) (by rfl) (by omega) (by omega) (by omega) (by omega) (by omega) (by omega) (by omega):bc q (dq (8) q q4 q5 q2 q2)=some (ARes.val q6 q))<|Kh 2 hq<|Kv 4 (by exact iq (xs:=L) (l:=0) (h:=i) (by kernel_rfl) (by rfl) (by rfl) (by omega) (by omega) (by omega) (by omega) (by omega) (by omega):bc (q1) (dq (8) (q1) q4 (none) q5 (none))=some (ARes.val q3 q1))<|Kv 1 (by exact Lg (xs:=L) (l:=i+1) (h:=i+1) (by kernel_rfl) (by rfl) (by rfl) (by rfl) rfl:bc (q1) (dq (8) (q1) q4 q2 (none) (none))=some (ARes.val q8 q1))<|Md rt (g0 (tR 8 false 0 1 (oA:aq (L)=0))<|g0 (tR 8 false 0 1 (oA:aq (L)=0)) rt) (by exact TK (zj rfl CU):fq (dc (8) (120) (q7) ((some q3)) ((some q8)))=some (ARes.val q3 q7))<|Ko 4 (by exact iq (xs:=L) (l:=i) (h:=i+1) (by kernel_rfl) (by rfl) (by rfl) (by omega) (by omega) (by omega) (by omega) (by omega) (by omega):bc q (dq (8) q ((some q3)) q5 q2 (none))=some (ARes.val q6 q))<|Mo (by exact KD rfl (by kernel_rfl) hc:fq (wj (8) (AV.agg [iV 0,iV 0,iV 0,iV 0,AV.str [],AV.nils,AV.nils,AV.nils]) q ((some q6)))=some (ARes.val (AV.tuple []) (aa [AObj.row 8 false 0 (L.eraseIdx i++[zU])])))<|Kf 1 a
theorem Ss(L Z:List AV)(n i:Nat)(hi:i<n)(hn:L.length=n)(hs:n<=2^20)(hf:dA 8 L=true)(hT:aq (L++Z)=0):kD 228 [.slice 0 0 0 n (some (n+Z.length)),nV i,nV (i+1)] (aa [dG (L++Z)]) (.slice 0 0 0 (n-1) (some (n+Z.length))) (aa [dG (L.eraseIdx i++(zU::Z))]):=by
  rcases fm (i+1) n with h|h
  · exact SB L Z n _ i h hn hs hf rfl hT
  · obtain rfl:n=i+1:=by omega
    cases Z with
    |nil=>rw[ef];rw[ef]at hT;exact Su L i hn (by omega) hT
    |cons z r=>exact SA L (z::r) _ i hn (by omega) (qK _) rfl hT
def gg(i:Nat)(x:AV)(l:List AV):List AV:=l.take i++(x::l.drop i)
theorem Ah{i:Nat}{x:AV}{l:List AV}(h:i<=l.length):(gg i x l).length=l.length+1:=by
  grind[gg]
theorem HV{x:AV}{l:List AV}{n:Nat}(h:l.length=n):gg n x l=l++[x]:=by
  grind[gg]
theorem Z5(n:Nat):ay (Int.ofNat n) (Int.ofNat n)=true:=bQ _
theorem abf{a b:Nat}(h:a<b):aB (Int.ofNat a) (Int.ofNat b)=true:=nQ (by simp_all)
theorem abg{a b:Nat}(h:b<=a):aB (Int.ofNat a) (Int.ofNat b)=false:=ky (by simp_all)
theorem VH{L Z:List AV}{x z:AV}{n:Nat}(h:L.length=n):bM (L++z::Z) (0+n) [x]=gg n x L++Z:=by
  unfold bM
  rw[HV h,fL,<-h,List.take_left,show(L++z::Z).drop (L.length+[x].length)=Z by rw[<-Cq,List.drop_left];rfl]
theorem UF{L Z:List AV}{z:AV}{n i:Nat}(h:L.length=n)(hi:i<n):bM (L++z::Z) (i+1) (L.drop i)=L.take (i+1)++(L.drop i++Z):=by
  unfold bM
  rw[List.take_append_of_le_length (by omega),jy,yD,show i+1+(L.length-i)=L.length+1 by omega,<-Cq,List.drop_left];rfl
theorem RK{L Z:List AV}{x:AV}{n i:Nat}(h:L.length=n)(hi:i<n):bM (L.take (i+1)++(L.drop i++Z)) i [x]=gg i x L++Z:=by
  unfold bM gg
  grind
theorem Us{L:List AV}{z x:AV}{n i:Nat}(h:L.length=n)(hi:i<n):bM (L.take i++List.replicate (n+1-i) z) i [x]=L.take i++(x::List.replicate (n-i) z):=by
  unfold bM
  have h1:(L.take i).length=i:=by grind
  have e:n+1-i=(n-i)+1:=by omega
  rw[List.take_append_of_le_length (by omega),th (by omega),<-Cq]
  simp_all
theorem RW{L:List AV}{z x:AV}{n i:Nat}(h:L.length=n)(hi:i<n):bM (L.take i++(x::List.replicate (n-i) z)) (i+1) (L.drop i)=gg i x L:=by
  unfold bM gg
  have h1:(L.take i).length=i:=by grind
  have h2:(L.take i++(x::List.replicate (n-i) z)).length=n+1:=by grind
  have e:(L.take i++(x::List.replicate (n-i) z)).drop (i+1+(L.drop i).length)=[]:=Fm (by grind)
  grind
theorem Rp(L Z:List AV)(x z:AV)(t:Bool)(n k:Nat)(hn:L.length=n)(hs:n<2^20)(hk:Z.length=k)(hx:dA 8 [x]=true):kD 156 [.slice 0 0 0 n (some (n+(k+1))),nV n,.ps [x] t] (aa [dG (L++z::Z)]) (.slice 0 0 0 (n+1) (some (n+(k+1)))) (aa [dG (gg n x L++Z)]):=by
  have hq:=Z5 n
  let q:=aa [aZ 8 false 0 (L++z::Z)];exact fS Tryz.func156 fun a=>Ko 2 (by exact iq (xs:=L++z::Z) (l:=n) (h:=n) (by kernel_rfl) (by rfl) (by rfl) (by omega) (by omega) (by omega) (by omega) (by omega) (by omega):bc q (dq (8) q ((some (AV.slice 0 0 0 n (some (n+(k+1)))))) ((some (nV n))) (none) (none))=some (ARes.val (AV.slice 0 0 n 0 (some (k+1))) q))<|Kt 11 hq<|Ko 1 (by exact Nb (new:=[x]) rfl (by rfl) hx (ii _ _) (by simp_all) (by simp_all) (ar (m:=2^20) (by grind) (by omega) (by omega)) rfl (VH hn):fq (dc (8) (120) (aa [AObj.row 8 false 0 (L++z::Z)]) ((some (AV.slice 0 0 0 n (some (n+(k+1)))))) ((some (AV.ps [x] t))))=some (ARes.val (AV.slice 0 0 0 (n+1) (some (n+(k+1)))) (aa [AObj.row 8 false 0 (gg n x L++Z)])))<|Kf 0 a
theorem Ro(L:List AV)(x:AV)(t:Bool)(n:Nat)(hn:L.length=n)(hs:n<2^20)(hx:dA 8 [x]=true)(hT:aq L=0)(hI:aq (gg n x L)=0):kD 156 [.slice 0 0 0 n (some n),nV n,.ps [x] t] (aa [dG L]) (.ls (gg n x L)) (aa [dG L]):=by
  have hq:=Z5 n
  have hIl:(gg n x L).length=n+1:=(Ah (by omega)).trans (by omega)
  let q:=aa [aZ 8 false 0 L];exact fS Tryz.func156 fun a=>Ko 2 (by exact Lg (xs:=L) (l:=n) (h:=n) (by kernel_rfl) (by rfl) (by rfl) (by rfl) rfl:bc q (dq (8) q ((some (AV.slice 0 0 0 n (some n)))) ((some (nV n))) (none) (none))=some (ARes.val (AV.slice 0 0 0 0 (some 0)) q))<|Kt 11 hq<|Ko 1 (by exact Wq (new:=[x]) rfl (by rfl) hx (ii _ _) (by simp_all) (ar (m:=2^20) (by grind) (by omega) (by omega)) (by grind[HV]) ((Ah (by omega)).trans (by omega)):fq (dc (8) (120) (aa [AObj.row 8 false 0 L]) ((some (AV.slice 0 0 0 n (some n)))) ((some (AV.ps [x] t))))=some (ARes.val (AV.slice 1 0 0 (n+1) none) (aa [AObj.row 8 false 0 L,AObj.row 8 true 0 (gg n x L)])))<|Mg 0<|M2 (.fsl 1 [] 6<|gg n x L) (et (tR 8 false 0 1 (oA:aq (L)=0)) ti) (cp (aJ 0) (Wp (oA:(gg n x L).length=n+1)) (oA:aq (gg n x L)=0))<|Ml 6 (eP (gg n x L) false (oA:aq (gg n x L)=0))<|Mf a
theorem Rn(L Z:List AV)(x z:AV)(t:Bool)(n k i:Nat)(hi:i<n)(hn:L.length=n)(hs:n<2^20)(hk:Z.length=k)(hx:dA 8 [x]=true)(hf:dA 8 L=true)(hT:aq (L++z::Z)=0)(hov:kD 225 [.ps [x] t,.slice 0 0 (i+1) (n-i) (some (n+(k+1)-(i+1)))] (aa [dG (L++z::Z)]) (.bool false) (aa [dG (L++z::Z)])):kD 156 [.slice 0 0 0 n (some (n+(k+1))),nV i,.ps [x] t] (aa [dG (L++z::Z)]) (.slice 0 0 0 (n+1) (some (n+(k+1)))) (aa [dG (gg i x L++Z)]):=by
  have hq:ay (Int.ofNat i) (Int.ofNat n)=false:=ZD (by omega)
  have hl:aB (Int.ofNat (n+(k+1))) (Int.ofNat (n+1))=false:=abg (by omega)
  let q:=aa [aZ 8 false 0 (L++z::Z)];let q1:=aa [aZ 8 false 0 (L.take (i+1)++(L.drop i++Z))];let q2:=AHeap.mk 1000000 (bF q ([0]) Tr.nil);let q3:=aI 0 0 0 (n+1) (some (n+(k+1)));let q4:=aI 0 0 i (n+1-i) (some (n+(k+1)-i));let q5:=(some (nV i));let q6:=aI 0 0 (i+1) (n-i) (some (n+(k+1)-(i+1)));let q7:=(some (nV (i+1)));let q8:=(some (aI 0 0 0 n (some (n+(k+1)))));exact fS Tryz.func156 fun a=>Ko 2 (by exact iq (xs:=L++z::Z) (l:=i) (h:=n) (by kernel_rfl) (by rfl) (by rfl) (by omega) (by omega) (by omega) (by omega) (by omega) (by omega):bc q (dq (8) q q8 q5 (none) (none))=some (ARes.val (AV.slice 0 0 i (n-i) (some (n+(k+1)-i))) q))<|Kh 11 hq<|Kl 2 28 (i7 n)<|Kh 2 hl<|Kl 3 59 (i7 n)<|Mo (by exact iq (xs:=L++z::Z) (l:=0) (h:=n+1) (by kernel_rfl) (by rfl) (by rfl) (by omega) (by omega) (by omega) (by omega) (by omega) (by omega):bc q (dq (8) q q8 (none) ((some (nV (n+1)))) (none))=some (ARes.val q3 q))<|Kl 5 65 (i7 i)<|Mo (by exact iq (xs:=L++z::Z) (l:=i+1) (h:=n+1) (by kernel_rfl) (by rfl) (by rfl) (by omega) (by omega) (by omega) (by omega) (by omega) (by omega):bc q (dq (8) q ((some q3)) q7 (none) (none))=some (ARes.val q6 q))<|Me hov<|Mg 4<|Ma (i7 i)<|Mv (by exact iq (xs:=L++z::Z) (l:=i+1) (h:=n+1) (by kernel_rfl) (by rfl) (by rfl) (by omega) (by omega) (by omega) (by omega) (by omega) (by omega):bc (q2) (dq (8) (q2) ((some q3)) q7 (none) (none))=some (ARes.val q6 q2))<|Kv 1 (by exact iq (xs:=L++z::Z) (l:=i) (h:=n+1) (by kernel_rfl) (by rfl) (by rfl) (by omega) (by omega) (by omega) (by omega) (by omega) (by omega):bc (q2) (dq (8) (q2) ((some q3)) q5 (none) (none))=some (ARes.val q4 q2))<|Md rt (g0 (tR 8 false 0 1 (oA:aq (L++z::Z)=0))<|g0 (tR 8 false 0 1 (oA:aq (L++z::Z)=0)) rt) (by exact NY (zs:=((L++z::Z).drop i).take (n+1-i)) rfl (zj rfl rfl) (by grind[rD]) (by grind) (by grind[UF]):fq (vW (8) ((AHeap.mk 1 (bF (aa [AObj.row 8 false 0 (L++z::Z)]) ([0,0]) Tr.nil))) ((some (AV.slice 0 0 (i+1) (n-i) (some (n+(k+1)-(i+1)))))) ((some (AV.slice 0 0 i (n+1-i) (some (n+(k+1)-i))))))=some (ARes.val (nV (n-i)) (AHeap.put (AHeap.mk 1 (bF (aa [AObj.row 8 false 0 (L++z::Z)]) ([0,0]) Tr.nil)) 0 (AObj.row 8 false 0 (L.take (i+1)++(L.drop i++Z))))))<|Ko 1 (by exact iq (xs:=L.take (i+1)++(L.drop i++Z)) (l:=i) (h:=n+1) (by kernel_rfl) (by rfl) (by rfl) (by omega) (by omega) (by omega) (by omega) (by omega) (by omega):bc q1 (dq (8) q1 ((some q3)) q5 (none) (none))=some (ARes.val q4 q1))<|Ko 0 (by exact NY (zs:=[x]) rfl (by rfl) (rC hx) (by grind) (by grind[List.take_of_length_le,RK]):fq (vW (8) q1 ((some q4)) ((some (AV.ps [x] t))))=some (ARes.val (iV 1) (aa [AObj.row 8 false 0 (gg i x L++Z)])))<|Kf 1 a
theorem Rm(L:List AV)(x:AV)(t:Bool)(n i:Nat)(hi:i<n)(hn:L.length=n)(hs:n<2^20)(hx:dA 8 [x]=true)(hf:dA 8 L=true)(hT:aq L=0)(hT2:aq (L.take i++(x::List.replicate (n-i) zU))=0)(hI:aq (gg i x L)=0):kD 156 [.slice 0 0 0 n (some n),nV i,.ps [x] t] (aa [dG L]) (.ls (gg i x L)) (aa [dG L]):=by
  have hq:ay (Int.ofNat i) (Int.ofNat n)=false:=ZD (by omega)
  have hl:aB (Int.ofNat n) (Int.ofNat (n+1))=true:=abf (by omega)
  have hIl:(gg i x L).length=n+1:=(Ah (by omega)).trans (by omega)
  let q:=aa [aZ 8 false 0 L,aZ 8 true 0 (L.take i++x::List.replicate (n-i) zU)];let q1:=aa [aZ 8 false 0 L,aZ 8 true 0 (L.take i++List.replicate (n+1-i) zU)];let q2:=aa [aZ 8 false 0 L];let q3:=(some (nV i));let q4:=AHeap.mk 1000000 (bF q ([0]) Tr.nil);let q5:=aI 0 0 i (n-i) (some (n-i));let q6:=(some (aI 0 0 0 n (some n)));let q7:=AHeap.mk 2 (bF q ([1,0]) Tr.nil);let q8:=aI 1 0 i (n+1-i) none;let q9:=aI 1 0 0 (n+1) none;let q10:=aI 0 0 0 i (some n);exact fS Tryz.func156 fun a=>Ko 2 (by exact iq (xs:=L) (l:=i) (h:=n) (by kernel_rfl) (by rfl) (by rfl) (by omega) (by omega) (by omega) (by omega) (by omega) (by omega):bc q2 (dq (8) q2 q6 q3 (none) (none))=some (ARes.val q5 q2))<|Kh 11 hq<|Kl 2 28 (i7 n)<|Kt 2 hl<|Ko 1 (by exact iq (xs:=L) (l:=0) (h:=i) (by kernel_rfl) (by rfl) (by rfl) (by omega) (by omega) (by omega) (by omega) (by omega) (by omega):bc q2 (dq (8) q2 q6 (none) q3 (none))=some (ARes.val q10 q2))<|Kl 2 37 (i7 n)<|Ko 0 (by(show bc _ (some (AV.int .i64 (IntKind.i64.wrap (Int.ofNat (n+1)-Int.ofNat i))))=_;rw[show(Int.ofNat (n+1)-Int.ofNat i)=Int.ofNat (n+1-i) by grind,x8 (by simp_all) (by grind)];rfl):bc (aa [AObj.row 8 false 0 L]) (TI (qX BinOp.sub (Tryz.prog.underlying 3) (cH Tryz.prog 3) (cP Tryz.prog 3) (dH Tryz.prog 10 3 0)) ((some (nV (n+1)))) ((some (nV i))))=some (ARes.val (nV (n+1-i)) (aa [AObj.row 8 false 0 L])))<|Mo (by exact UD rfl (by omega) (by omega) (by kernel_rfl) (ar (m:=2^21) (by omega) (by omega) (by omega)) (ar (m:=2^21) (by omega) (by omega) (by omega)) (by simp_all) (by grind):fq (C6 (8) (120) (AV.agg [iV 0,iV 0,iV 0,iV 0,AV.str [],AV.nils,AV.nils,AV.nils]) q2 ((some q10)) ((some (nV (n+1-i)))))=some (ARes.val q9 q1))<|Ko 2 (by exact Lf (xs:=L.take i++List.replicate (n+1-i) zU) (l:=i) (h:=n+1) (by kernel_rfl) (by rfl) (by rfl) (by omega) (by grind) (by omega) (by omega):bc q1 (dq (8) q1 ((some q9)) q3 (none) (none))=some (ARes.val q8 q1))<|Ko 0 (by exact NY (zs:=[x]) rfl (by rfl) (rC hx) (by grind) (by grind[List.take_of_length_le,Us]):fq (vW (8) q1 ((some q8)) ((some (AV.ps [x] t))))=some (ARes.val (iV 1) q))<|Mg 2<|Ma (i7 i)<|Mv (by exact Lf (xs:=L.take i++(x::List.replicate (n-i) zU)) (l:=i+1) (h:=n+1) (by kernel_rfl) (by rfl) (by rfl) (by omega) (by grind) (by omega) (by omega):bc ((AHeap.mk 1000000 (bF (aa [AObj.row 8 false 0 L,AObj.row 8 true 0 (L.take i++x::List.replicate (n-i) zU)]) ([1]) Tr.nil))) (dq (8) ((AHeap.mk 1000000 (bF (aa [AObj.row 8 false 0 L,AObj.row 8 true 0 (L.take i++x::List.replicate (n-i) zU)]) ([1]) Tr.nil))) ((some (AV.slice 1 0 0 (n+1) none))) ((some (nV (i+1)))) (none) (none))=some (ARes.val (AV.slice 1 0 (i+1) (n-i) none) (AHeap.mk 1000000 (bF (aa [AObj.row 8 false 0 L,AObj.row 8 true 0 (L.take i++x::List.replicate (n-i) zU)]) ([1]) Tr.nil))))<|Kv 1 (by exact iq (xs:=L) (l:=i) (h:=n) (by kernel_rfl) (by rfl) (by rfl) (by omega) (by omega) (by omega) (by omega) (by omega) (by omega):bc (q4) (dq (8) (q4) q6 q3 (none) (none))=some (ARes.val q5 q4))<|Md rt (g0 (tR 8 true 0 2 (oA:aq (L.take i++x::List.replicate (n-i) zU)=0))<|g0 (tR 8 false 0 2 (oA:aq (L)=0)) rt) (by exact NY (zs:=L.drop i) rfl (zj rfl (th (by simp_all))) (rC (rD hf)) (by simp_all) (by grind[List.length_drop,RW]):fq (vW (8) (q7) ((some (AV.slice 1 0 (i+1) (n-i) none))) ((some q5)))=some (ARes.val (nV (n-i)) (AHeap.put q7 1 (AObj.row 8 true 0 (gg i x L)))))<|Mg 1<|M2 (.fsl 1 [] 6<|gg i x L) (et (tR 8 false 0 1 (oA:aq (L)=0)) ti) (cp (aJ 0) (Wp (oA:(gg i x L).length=n+1)) (oA:aq (gg i x L)=0))<|Ml 6 (eP (gg i x L) false (oA:aq (gg i x L)=0))<|Mf a
theorem HJ(x:TUnit)(t:Bool):kP 156 [.nils,iV 0,.ps [eU x] t] (.ls [eU x]):=by
  have hx:dA 8 [eU x]=true:=by kernel_rfl
  have hIl:[eU x].length=1:=rfl
  have hI:aq [eU x]=0:=by kernel_rfl
  let q:=[ak (uLx x)];exact bp Tryz.func156<|Ko 18 (by(simp only[dc,gy,kF,km,gT,hx];rfl):fq (dc (8) (120) (aa []) ((some (AV.nils))) ((some (AV.ps [AV.agg (uLx x)] t))))=some (ARes.val (AV.slice 0 0 0 1 none) (aa [AObj.row 8 true 0 [eU x]])))<|K1 0 (.frz 0 [6]) ti<|Mf (eP q _<|by rfl:Le _ (AV.ps q false))
theorem HW(x:TUnit)(t:Bool):kP 156 [.ps [] true,iV 0,.ps [eU x] t] (.ls [eU x]):=by
  have hx:dA 8 [eU x]=true:=by kernel_rfl
  have hIl:[eU x].length=1:=rfl
  have hI:aq [eU x]=0:=by kernel_rfl
  let q:=[ak (uLx x)];exact bp Tryz.func156<|Ko 18 (by(simp only[dc,gy,kF,km,gT,hx];rfl):fq (dc (8) (120) (aa []) ((some (AV.ps [] true))) ((some (AV.ps [AV.agg (uLx x)] t))))=some (ARes.val (AV.slice 0 0 0 1 none) (aa [AObj.row 8 true 0 [eU x]])))<|K1 0 (.frz 0 [6]) ti<|Mf (eP q _<|by rfl:Le _ (AV.ps q false))
noncomputable def Lk:TypeInfo:=(Tryz.prog.info? 39).getD default
theorem P2:Tryz.prog.info? 39=some Lk:=by kernel_rfl
theorem ZU:Le (aY bd) zU:=aP (.cons (Le.refl _) (.cons (Le.refl _) (.cons (Le.refl _) (.cons (Le.refl _) (.cons (Le.refl _) (.cons Le.nils (.cons Le.nils (.cons Le.nils .nil)))))))) rfl
theorem JJ:Lk.size=8:=by kernel_rfl
theorem FR:Lk.bytes=120:=by kernel_rfl
theorem Z3(l:List TUnit):dA 8 (l.map aY)=true:=gi (fun u=>by cases u;rfl) l
theorem FX(xs:List TUnit)(hne:xs≠[])(hl:xs.length<=2^20)(a b c:AObj):kC 65 [.ls (xs.map aY)] (aa [a,b,c])
    (fun v h=>∃k:Nat,True/\v=.slice 3 0 0 xs.length (some (xs.length+k))/\h=aa [a,b,c,dG ((xs++List.replicate k bd).map aY)]):=by
  simp only[oJ,List.map_replicate]
  have hn:xs.map aY≠[]:=fun h=>hne (List.map_eq_nil_iff.1 h)
  have hf:=Z3 xs
  have hsm:small (xs.map aY).length 120=true:=by grind[ar]
  have hlen:xs.length=(xs.map aY).length:=(b9 ..).symm
  rw[hlen]
  generalize xs.map aY=L at hn hf hsm
  refine aE.enter 2 (fn:=Tryz.f65) Tryz.func65 (by kernel_rfl) rfl ⟨by kernel_rfl,by kernel_rfl⟩ ?_
  refine am.seq (am.mono (EB pL jk (ev 40) (s':=⟨eZ 8 [(0,.ls L),(2,.nils)],aa [a,b,c]⟩) (.go 0 .fin) (by kernel_rfl)) ?_)
  rintro _ _ ⟨rfl,rfl⟩
  refine am.seq (am.seq (am.mono (yz jk (ev 40) (Ψ:=fun s=>s=⟨eZ 8 [(0,.ls L),(2,.nils),(3,.ps L false),(4,.bool false)],aa [a,b,c]⟩) (.go 0 (.nz 3 .abs (.go 0 .fin)))
    (W:=(L=[]->False)/\(⟨eZ 8 [(0,.ls L),(2,.nils),(3,.ps L false),(4,.bool false)],aa [a,b,c]⟩:St)=⟨eZ 8 [(0,.ls L),(2,.nils),(3,.ps L false),(4,.bool false)],aa [a,b,c]⟩) ⟨hn,rfl⟩ (by kernel_rfl)) ?_))
  rintro _ _ ⟨rfl,rfl⟩
  refine am.cond (t:=false) (by kernel_rfl) (fun h=>by grind) fun _=>am.skip ?_
  refine am.seq (am.region ?_)
  show b8 _ _ _ _ [_,_,_,_] _ _
  refine b8.one (s':=⟨eZ 8 [(0,.ls L),(2,.nils),(3,.ps L false),(4,.bool false),(5,.ps [] true)],aa [a,b,c]⟩) (ev 40) (by kernel_rfl) ?_
  refine b8.one (s':=⟨eZ 8 [(0,.ls L),(2,.nils),(3,.ps L false),(4,.bool false),(5,.ps [] true),(6,.ls L)],aa [a,b,c]⟩) (ev 40) (by kernel_rfl) ?_
  refine rS (I:=fun _=>True) (r:=fun k:Nat=>.slice 3 0 0 L.length (some (L.length+k))) (H:=fun k=>aa [a,b,c,.row 8 false 0 (L++List.replicate k (aY bd))]) (by kernel_rfl)
    (fun pl M a w g1 g2 g3=>vk (z:=aY bd) (z0:=zU) (xs:=L) (t:=37) (tx:=37) (e:=39) (i:=Lk) JJ FR (by kernel_rfl) ⟨39,by kernel_rfl⟩ P2 (by kernel_rfl) ZU (by kernel_rfl) (by kernel_rfl) hn hf (by kernel_rfl) hsm (by omega) pl M a w g1 g2 g3) fun k _=>?_
  refine⟨eZ 8 [(0,.ls L),(2,.nils),(3,.ps L false),(4,.bool false),(5,.ps [] true),(6,.ls L),(7,.slice 3 0 0 L.length (some (L.length+k)))],by kernel_rfl,?_⟩
  refine b8.one (s':=⟨eZ 8 [(0,.ls L),(2,.slice 3 0 0 L.length (some (L.length+k))),(3,.ps L false),(4,.bool false),(5,.ps [] true),(6,.ls L),(7,.slice 3 0 0 L.length (some (L.length+k)))],aa [a,b,c,.row 8 false 0 (L++List.replicate k (aY bd))]⟩) (ev 40) (by kernel_rfl) (b8.nil (am.ret ⟨fun id h=>(by grind),.slice 3 0 0 L.length (some (L.length+k)),by kernel_rfl,k,trivial,by kernel_rfl,by kernel_rfl⟩))
noncomputable abbrev dF(u:TUnit)(K:AV):AObj:=.row 8 false 0 [.agg [iV u.act,iV u.item,iV u.n,iV u.kind,.str u.label,.ls (u.head.map aQ),.ls (u.words.map aQ),K]]
theorem Zx(u:TUnit)(n c i:Nat)(R R':List AV)(hT:aq R=0)(hT2:aq R'=0)(hi:i<n)(hs:n<=2^20)(hD:kD 228 [.slice 1 0 0 n (some c),nV i,nV (i+1)] (aa [dF u (.slice 1 0 0 n (some c)),dG R]) (.slice 1 0 0 (n-1) (some c)) (aa [dF u (.slice 1 0 0 n (some c)),dG R'])):
    kD 227 [.ptr 0 0 0 0,.pptr [nV i] 0 0] (aa [dF u (.slice 1 0 0 n (some c)),dG R]) (.tuple []) (aa [dF u (.slice 1 0 0 (n-1) (some c)),dG R']):=by
  exact fS Tryz.func227 fun a=>Mg 6<|Ma (i7 i)<|M3 (.efx false (aI 1 0 0 (n-1)<|some c)<|aa [aZ 8 false 0 [ak [iV u.act,iV u.item,iV u.n,iV u.kind,aj u.label,aW<|u.head.map aQ,aW<|u.words.map aQ,aI 1 0 0 n<|some c]],aZ 8 false 0 R']) (cp (tR 8 false 0 2 (oA:aq (R)=0)) rt ti) ti hD<|Kf 2 a
theorem YJ(u x:TUnit)(n c i:Nat)(R R':List AV)(hT:aq R=0)(hT2:aq R'=0)(hD:kD 156 [.slice 1 0 0 n (some c),nV i,.ps [eU x] true] (aa [dF u (.slice 1 0 0 n (some c)),dG R]) (.slice 1 0 0 (n+1) (some c)) (aa [dF u (.slice 1 0 0 n (some c)),dG R'])):
    kD 155 [.ptr 0 0 0 0,.pptr [nV i] 0 0,.pptr [eU x] 0 0] (aa [dF u (.slice 1 0 0 n (some c)),dG R]) (.tuple []) (aa [dF u (.slice 1 0 0 (n+1) (some c)),dG R']):=by
  exact fS Tryz.func155 fun a=>Mg 7<|M3 (.efx false (aI 1 0 0 (n+1)<|some c)<|aa [aZ 8 false 0 [ak [iV u.act,iV u.item,iV u.n,iV u.kind,aj u.label,aW<|u.head.map aQ,aW<|u.words.map aQ,aI 1 0 0 n<|some c]],aZ 8 false 0 R']) (cp (tR 8 false 0 2 (oA:aq (R)=0)) rt ti) ti hD<|Kf 2 a
theorem YW(u x:TUnit)(n c i:Nat)(R Y:List AV)(hT:aq R=0)(hD:kD 156 [.slice 1 0 0 n (some c),nV i,.ps [eU x] true] (aa [dF u (.slice 1 0 0 n (some c)),dG R]) (.ls Y) (aa [dF u (.slice 1 0 0 n (some c)),dG R])):
    kD 155 [.ptr 0 0 0 0,.pptr [nV i] 0 0,.pptr [eU x] 0 0] (aa [dF u (.slice 1 0 0 n (some c)),dG R]) (.tuple []) (aa [dF u (.ls Y),dG R]):=by
  let q:=[ak [iV u.act,iV u.item,iV u.n,iV u.kind,aj u.label,aW (u.head.map aQ),aW (u.words.map aQ),aI 1 0 0 n (some c)]];exact fS Tryz.func155 fun a=>Mg 7<|M3 (.efx true (aW Y)<|aa [aZ 8 false 0 q,aZ 8 false 0 R]) (cp (tR 8 false 0 2 (oA:aq (R)=0)) rt ti) (cp (aJ<|some<|aZ 8 false 0 R) (aJ<|some<|aZ 8 false 0 q) ti) hD<|Kf 2 a
theorem YX(u x:TUnit)(Y:List AV)(hD:kP 156 [.nils,iV 0,.ps [eU x] true] (.ls Y)):
    kD 155 [.ptr 0 0 0 0,.pptr [iV 0] 0 0,.pptr [eU x] 0 0] (aa [dF u .nils]) (.tuple []) (aa [dF u (.ls Y)]):=by
  exact fS Tryz.func155 fun a=>Kp 7 hD<|Kf 2 a
theorem YZ(u x:TUnit)(Y:List AV)(hD:kP 156 [(.ps [] true),iV 0,.ps [eU x] true] (.ls Y)):
    kD 155 [.ptr 0 0 0 0,.pptr [iV 0] 0 0,.pptr [eU x] 0 0] (aa [dF u (.ps [] true)]) (.tuple []) (aa [dF u (.ls Y)]):=by
  exact fS Tryz.func155 fun a=>Kp 7 hD<|Kf 2 a
theorem XS(u x:TUnit)(n c i:Nat)(R R':List AV)(hT:aq R=0)(hT2:aq R'=0)(hD:kD 156 [.slice 1 0 0 n (some c),nV i,.ps [eU x] true] (aa [dF u (.slice 1 0 0 n (some c)),dG R]) (.slice 1 0 0 (n+1) (some c)) (aa [dF u (.slice 1 0 0 n (some c)),dG R'])):
    kD 166 [.ptr 0 0 0 0,.pptr [nV i] 0 0,.pptr [eU x] 0 0] (aa [dF u (.slice 1 0 0 n (some c)),dG R]) (.tuple []) (aa [dF u (.slice 1 0 0 (n+1) (some c)),dG R']):=by
  exact fS Tryz.func166 fun a=>Mg 7<|M3 (.efx false (aI 1 0 0 (n+1)<|some c)<|aa [aZ 8 false 0 [ak [iV u.act,iV u.item,iV u.n,iV u.kind,aj u.label,aW<|u.head.map aQ,aW<|u.words.map aQ,aI 1 0 0 n<|some c]],aZ 8 false 0 R']) (cp (tR 8 false 0 2 (oA:aq (R)=0)) rt ti) ti hD<|Kf 2 a
theorem XR(u x:TUnit)(n c i:Nat)(R Y:List AV)(hT:aq R=0)(hD:kD 156 [.slice 1 0 0 n (some c),nV i,.ps [eU x] true] (aa [dF u (.slice 1 0 0 n (some c)),dG R]) (.ls Y) (aa [dF u (.slice 1 0 0 n (some c)),dG R])):
    kD 166 [.ptr 0 0 0 0,.pptr [nV i] 0 0,.pptr [eU x] 0 0] (aa [dF u (.slice 1 0 0 n (some c)),dG R]) (.tuple []) (aa [dF u (.ls Y),dG R]):=by
  let q:=[ak [iV u.act,iV u.item,iV u.n,iV u.kind,aj u.label,aW (u.head.map aQ),aW (u.words.map aQ),aI 1 0 0 n (some c)]];exact fS Tryz.func166 fun a=>Mg 7<|M3 (.efx true (aW Y)<|aa [aZ 8 false 0 q,aZ 8 false 0 R]) (cp (tR 8 false 0 2 (oA:aq (R)=0)) rt ti) (cp (aJ<|some<|aZ 8 false 0 R) (aJ<|some<|aZ 8 false 0 q) ti) hD<|Kf 2 a
theorem XP(u x:TUnit)(Y:List AV)(hD:kP 156 [.nils,iV 0,.ps [eU x] true] (.ls Y)):
    kD 166 [.ptr 0 0 0 0,.pptr [iV 0] 0 0,.pptr [eU x] 0 0] (aa [dF u .nils]) (.tuple []) (aa [dF u (.ls Y)]):=by
  exact fS Tryz.func166 fun a=>Kp 7 hD<|Kf 2 a
theorem XO(u x:TUnit)(Y:List AV)(hD:kP 156 [(.ps [] true),iV 0,.ps [eU x] true] (.ls Y)):
    kD 166 [.ptr 0 0 0 0,.pptr [iV 0] 0 0,.pptr [eU x] 0 0] (aa [dF u (.ps [] true)]) (.tuple []) (aa [dF u (.ls Y)]):=by
  exact fS Tryz.func166 fun a=>Kp 7 hD<|Kf 2 a
theorem Zq(u:TUnit)(l:List PWord):kD 159 [.ptr 0 0 0 0,.pptr [.ls (l.map aQ)] 0 0] (aa [dF u (.ls (u.kids.map aY))]) (.tuple []) (aa [dF (lx l u) (.ls (u.kids.map aY))]):=by
  exact fS Tryz.func159 fun a=>Kf 4 a
theorem Zi(u:TUnit)(l:List PWord):kD 161 [.ptr 0 0 0 0,.pptr [.ls (l.map aQ)] 0 0] (aa [dF u (.ls (u.kids.map aY))]) (.tuple []) (aa [dF (lx l u) (.ls (u.kids.map aY))]):=by
  exact fS Tryz.func161 fun a=>Kf 4 a
theorem ZS(u:TUnit)(l:List PWord):kD 163 [.ptr 0 0 0 0,.pptr [.ls (l.map aQ)] 0 0] (aa [dF u (.ls (u.kids.map aY))]) (.tuple []) (aa [dF (wW l u) (.ls (u.kids.map aY))]):=by
  exact fS Tryz.func163 fun a=>Kf 4 a
theorem Zg(u:TUnit)(d:PDeed):kD 165 [.ptr 0 0 0 0,.pptr [aU d] 0 0] (aa [dF u (.ls (u.kids.map aY))]) (.tuple []) (aa [dF (nM d.it.label u) (.ls (u.kids.map aY))]):=by
  exact fS Tryz.func165 fun a=>Kf 6 a
noncomputable abbrev vG(p:PId):AObj:=.row 3 false 0 [aK p]
noncomputable abbrev zO:AObj:=.row 8 false 0 [zU]
theorem Iv:kP 65 [.nils] .nils:=by
  exact wk Tryz.func65 (.go 4 .fin)<|bw ab
theorem Iw:kP 65 [.ps [] false] (.ps [] true):=by
  exact wk Tryz.func65 (.go 7 .fin)<|bw<|j9 [] true
theorem SL(w:TUnit)(r:List TUnit)(hl:r.length<2^20):kP 65 [.ls ((w::r).map aY)] (.ls ((w::r).map aY)):=by
  let q:=List.map aY (w::r);exact bp Tryz.func65<|Mg 1<|Mz 3 (fun(a:((w::r).map aY:List AV)=[])=>Mw .abs<|ii _ _ a)<|Mg 3<|M2 .apl (et (sA:List.map aY (w::r)≠[])<|gi (sz:=8) (f:=aY) (fun _=>by(rw[aO];rfl))<|w::r) (by(refine ar (m:=2^21) ?_ ?_ ?_<;>first|omega|grind):small ((w::r).map aY).length 120=true)<|Mg 0<|M2 (.fsl 0 [] 2 q) ti (cp (aJ 0) (tA aY (w::r) q.length (sA:(w::r).length=((w::r).map aY).length))<|aX iZ<|w::r)<|Ml 2 (eP q false<|aX iZ<|w::r)<|Mf<|bw<|aW q
theorem Dm(l:List TUnit)(hl:l.length<=2^20):kP 65 [.ls (l.map aY)] (.ls (l.map aY)):=by
  cases l with
  |nil=>exact aL.ls0 (Iv.less Le.nils) (Iw.lessB (u:=.ls []) (by kernel_rfl))
  |cons w r=>grind[SL]
theorem yc(g:Nat)(bs:List AV)(p:PId)(u u2:TUnit)(hA:aq [eU u,aK p,.func (.func g) [] bs]=0)(hp:(ay u.act p.a&&(ay u.item p.i&&ay u.n p.n))=true)(hl:u.kids.length<=2^20)(hd:kD g (.ptr 0 0 0 0::bs) (aa [dF u (.ls (u.kids.map aY)),vG p,zO]) (.tuple []) (aa [dF u2 (.ls (u2.kids.map aY)),vG p,zO])):kP 154 [eU u,aK p,.func (.func g) [] bs] (eU u2):=by
  have hc:=Dm u.kids hl
  let q:=[iV p.a,iV p.i,iV p.n];exact bp (ht:=oA) Tryz.func154<|Kv 5 (lV ((Tryz.prog).underlying 35) u.act u.item u.n p.a p.i p.n<|aa [aZ 8 false 0 [ak (uLx u)],aZ 3 false 0 [ak q],aZ 8 false 0 [ak [iV 0,iV 0,iV 0,iV 0,aj [],ab,ab,ab]]])<|Mt hp<|Kp 1 hc<|Ke 2 hd<|Kf 1<|bw<|ak (uLx u2)
theorem Vv(g:Nat)(bs:List AV)(p:PId)(u u2:TUnit)(n2:Nat)(Z:Nat->List AV)(hA:aq [eU u,aK p,.func (.func g) [] bs]=0)(hp:(ay u.act p.a&&(ay u.item p.i&&ay u.n p.n))=true)(hl:u.kids.length<=2^20)(hne:u.kids≠[])(hn2:u2.kids.length=n2)(hd:∀k,kD g (.ptr 0 0 0 0::bs) (aa [dF u (.slice 3 0 0 u.kids.length (some (u.kids.length+k))),vG p,zO,dG ((u.kids++List.replicate k bd).map aY)]) (.tuple []) (aa [dF u2 (.slice 3 0 0 n2 (some (u.kids.length+k))),vG p,zO,dG (u2.kids.map aY++Z k)])):kP 154 [eU u,aK p,.func (.func g) [] bs] (eU u2):=by
  let q:=[ak (uLx u)];let q1:=[iV p.a,iV p.i,iV p.n];let q2:=[ak [iV 0,iV 0,iV 0,iV 0,aj [],ab,ab,ab]];let q3:=List.map aY u2.kids;exact bp (ht:=oA) Tryz.func154<|Kv 5 (lV ((Tryz.prog).underlying 35) u.act u.item u.n p.a p.i p.n<|aa [aZ 8 false 0 q,aZ 3 false 0 [ak q1],aZ 8 false 0 q2])<|Mt hp<|Mg 1<|Mq (FX u.kids hne hl (aZ 8 false 0 q) (aZ 3 false 0 [ak q1])<|aZ 8 false 0 q2) fun a _=>Ke 2 (hd a)<|M2 (.fza 0 7 3 [3,6] q3) (js rt rt rt ti) (cp (aJ 0) (Wr (xs:=List.map aY u2.kids) (ys:=Z a) (n:=n2) sA)<|aX iZ u2.kids)<|Kf 1<|bw<|ak [iV u2.act,iV u2.item,iV u2.n,iV u2.kind,aj u2.label,aW<|u2.head.map aQ,aW<|u2.words.map aQ,aW q3]
theorem Vi{l m:List TUnit}{i:Nat}(h:i<l.length):gD (l++m) i=gD l i:=by
  grind[gD]
theorem uZ{l m:List TUnit}{i n:Nat}{x:TUnit}(h:l.length=n)(hi:i<n):((l++m).set i x).take n=l.set i x:=by
  simp_all
theorem Tv{l m:List TUnit}{n:Nat}(h:l.length=n):(l++m).take n=l:=by simp_all
theorem M9{l:List TUnit}{i:Nat}(h:i<l.length):l.drop i=gD l i::l.drop (i+1):=by
  grind[List.drop_eq_getElem_cons,gD]
theorem Zw{p:PId}{f:TUnit->TUnit}{l:List TUnit}{i:Nat}(h:jq p f l i (l.drop i))(hi:l.length<=i):eV p f l=l:=by
  grind[List.drop_eq_nil_of_le,jq.done]
theorem Zj{p:PId}{f:TUnit->TUnit}{l:List TUnit}{i:Nat}(h:jq p f l i (l.drop i))(hi:i<l.length)(hw:be p (gD l i)=false):jq p f l (i+1) (l.drop (i+1)):=by
  grind[M9,jq.skip]
theorem Zk{p:PId}{f:TUnit->TUnit}{l:List TUnit}{i:Nat}(h:jq p f l i (l.drop i))(hi:i<l.length)(hw:be p (gD l i)=true):eV p f l=l.set i (bL p f (gD l i)):=by
  grind[M9,jq.hit]
theorem ZH(g:Nat)(bs:List AV)(p:PId)(u:TUnit)(hA:aq [eU u,aK p,.func (.func g) [] bs]=0)(hA2:(AV.func (.func g) [] bs).top=0)(hp:(ay u.act p.a&&(ay u.item p.i&&ay u.n p.n))=false)(h0:u.kids.length=0)(hl0:aB 0 (Int.ofNat u.kids.length)=false):kP 154 [eU u,aK p,.func (.func g) [] bs] (eU u):=by
  have hc:=Dm u.kids (by omega)
  let q:=[aZ 8 false 0 [ak (uLx u)],aZ 3 false 0 [ak [iV p.a,iV p.i,iV p.n]],aZ 8 false 0 [ak [iV 0,iV 0,iV 0,iV 0,aj [],ab,ab,ab]]];let q1:=[bj (bx g) [] bs,bX 0 0 0 0,bX 1 0 0 0,bX 2 0 0 0,aW (u.kids.map aY),aW (u.kids.map aY),nV u.kids.length,iV 0];exact bp (ht:=oA) Tryz.func154<|Kv 5 (lV ((Tryz.prog).underlying 35) u.act u.item u.n p.a p.i p.n<|aa q)<|Mh hp<|Kp 1 hc<|Kl 2 27 (ln aY u.kids)<|Mg 0<|MO0 [2,3,4,6,7,26,27,28] (q1,q) True 0 ti fun _ _=>Kh 0 hl0<|Kf 4<|bw<|ak (uLx u)
theorem ZG(g:Nat)(bs:List AV)(p:PId)(f:TUnit->TUnit)(u:TUnit)(hA:aq [eU u,aK p,.func (.func g) [] bs]=0)(hA2:(AV.func (.func g) [] bs).top=0)(hp:(ay u.act p.a&&(ay u.item p.i&&ay u.n p.n))=false)(hne:u.kids≠[])(hn:u.kids.length<=2^20)
    (hf:∀k,k∈u.kids->kP 24 [eU k,aK p] (.tuple [eU (bG p k),.bool (be p k)]))
    (ih:∀k,k∈u.kids->kP 154 [eU k,aK p,.func (.func g) [] bs] (eU (bL p f k))):kP 154 [eU u,aK p,.func (.func g) [] bs] (eU (jD u (eV p f u.kids))):=by
  have rr0:∀b',(h:(List.map aY (jD u (eV p f u.kids)).kids)=b':=by first|rfl|(rw[Zk hx0.2 (by(first|omega|(simp only[oN]at *;omega))) (by rw[<-q0 (by(first|omega|(simp only[oN]at *;omega)))];assumption),q0 (by(first|omega|(simp only[oN]at *;omega)))];exact congrArg _ (uZ rfl (by(first|omega|(simp only[oN]at *;omega)))).symm)|(rw[Zw hx0.2 (by(first|omega|(simp only[oN]at *;omega)))];exact congrArg _ (Tv rfl).symm))->(List.map aY (jD u (eV p f u.kids)).kids)=b':=(fun _ h=>h);exact bp (ht:=oA) Tryz.func154<|Kv 5 (lV ((Tryz.prog).underlying 35) u.act u.item u.n p.a p.i p.n<|aa [aZ 8 false 0 [ak (uLx u)],aZ 3 false 0 [ak [iV p.a,iV p.i,iV p.n]],aZ 8 false 0 [ak [iV 0,iV 0,iV 0,iV 0,aj [],ab,ab,ab]]])<|Mh hp<|Mg 1<|Mq (FX u.kids hne hn (aZ 8 false 0 [ak (uLx u)]) (aZ 3 false 0 [ak [iV p.a,iV p.i,iV p.n]])<|aZ 8 false 0 [ak [iV 0,iV 0,iV 0,iV 0,aj [],ab,ab,ab]]) fun a _=>Mg 3<|ZY (0:Nat) [2,3,4,6,7,26,27,28] (fun b=>([bj (bx g) [] bs,bX 0 0 0 0,bX 1 0 0 0,bX 2 0 0 0,aI 3 0 0 u.kids.length<|some<|u.kids.length+a,aI 3 0 0 u.kids.length<|some<|u.kids.length+a,nV u.kids.length,nV b],[aZ 8 false 0 [ak (uLx u)],aZ 3 false 0 [ak [iV p.a,iV p.i,iV p.n]],aZ 8 false 0 [ak [iV 0,iV 0,iV 0,iV 0,aj [],ab,ab,ab]],aZ 8 false 0<|(u.kids++List.replicate a bd).map aY])) (fun a=>a<=u.kids.length/\jq p f u.kids a (u.kids.drop a)) (fun a=>u.kids.length-a) (by simp_all[jq.start]) fun b hx0 c=>have hx0:b<=u.kids.length/\jq p f u.kids b (u.kids.drop b):=hx0;have q0:b<u.kids.length->gD (u.kids++List.replicate a bd) b=gD u.kids b:=fun h=>Vi h;Ka 0 (Int.ofNat b) (Int.ofNat u.kids.length) (fun _ _=>K1 0 .rix (et (aJ 0) (sA:b<u.kids.length))<|Mr (et (aJ 0)<|ri aY (g:=Go.Ev.eU) aO (gR:b<(u.kids++List.replicate a bd).length))<|Kp 4 (hf (gD (u.kids++List.replicate a bd) b)<|by grind[dZ])<|Kb 6 (be p<|gD (u.kids++List.replicate a bd) b) (fun _=>Kp 4 (ih (gD (u.kids++List.replicate a bd) b)<|by grind[dZ])<|M1 .rix (et (aJ 0) (sA:b<u.kids.length))<|M1 (.rst (ak [iV (gD (u.kids++List.replicate a bd) b).act,iV (gD (u.kids++List.replicate a bd) b).item,iV (gD (u.kids++List.replicate a bd) b).n,iV (gD (u.kids++List.replicate a bd) b).kind,aj (gD (u.kids++List.replicate a bd) b).label,aW<|List.map aQ (gD (u.kids++List.replicate a bd) b).head,aW<|List.map aQ (gD (u.kids++List.replicate a bd) b).words,aW<|List.map aY (gD (u.kids++List.replicate a bd) b).kids])<|((u.kids++List.replicate a bd).set b<|bL p f<|gD (u.kids++List.replicate a bd) b).map aY) (cp (aJ 0) (ri aY (g:=Go.Ev.eU) aO (gR:b<(u.kids++List.replicate a bd).length))<|EW (f:=aY) (g:=Go.Ev.eU) aO (l:=u.kids++List.replicate a bd) (i:=b) (w:=bL p f<|gD (u.kids++List.replicate a bd) b))<|Mg 0<|M2 (.fsl 3 [3,6] 48<|(((u.kids++List.replicate a bd).set b<|bL p f<|gD (u.kids++List.replicate a bd) b).take u.kids.length).map aY) (js rt rt rt ti) (cp (aJ 0) (zW (f:=aY) (l:=(u.kids++List.replicate a bd).set b<|bL p f<|gD (u.kids++List.replicate a bd) b) (n:=u.kids.length))<|aX iZ<|((u.kids++List.replicate a bd).set b<|bL p f<|gD (u.kids++List.replicate a bd) b).take u.kids.length)<|Ml 48 (eP ((((u.kids++List.replicate a bd).set b<|bL p f<|gD (u.kids++List.replicate a bd) b).take u.kids.length).map aY) (oa (some<|u.kids.length+a)<|some u.kids.length)<|aX iZ<|((u.kids++List.replicate a bd).set b<|bL p f<|gD (u.kids++List.replicate a bd) b).take u.kids.length)<|Kf 3 (aP (.cons (bw _)<|.cons (bw _)<|.cons (bw _)<|.cons (bw _)<|.cons (bw _)<|.cons (bw _)<|.cons (bw _)<|.cons (cY<|rr0<|(((u.kids++List.replicate a bd).set b<|bL p f<|gD (u.kids++List.replicate a bd) b).take u.kids.length).map aY) .nil)<|by kernel_rfl:Le _ (AV.agg [iV u.act,iV u.item,iV u.n,iV u.kind,AV.str u.label,AV.ls (u.head.map aQ),AV.ls (u.words.map aQ),AV.ls ((((u.kids++List.replicate a bd).set b (bL p f (gD (u.kids++List.replicate a bd) b))).take u.kids.length).map aY)]))) fun _=>Kl 0 47 (i7 b)<|Mg 0<|M2 (.frl 4 [3,4,6,7,26,27,28] [2]) (EM (P8 (sz:=8) (op:=false) (ep:=0) (n:=4)<|aX iZ<|u.kids++List.replicate a bd) rt rt rt ti) (et (oA:(AV.func (Fn.func g) [] bs).top<=4) ti)<|Mf<|c (b+1) (by grind[Zj]) gR) fun _ _=>Mg 0<|M2 (.fsl 3 [3,6] 48<|((u.kids++List.replicate a bd).take u.kids.length).map aY) (js rt rt rt ti) (cp (aJ 0) (zW (f:=aY) (l:=u.kids++List.replicate a bd) (n:=u.kids.length))<|aX iZ<|(u.kids++List.replicate a bd).take u.kids.length)<|Ml 48 (eP (((u.kids++List.replicate a bd).take u.kids.length).map aY) (oa (some<|u.kids.length+a)<|some u.kids.length)<|aX iZ<|(u.kids++List.replicate a bd).take u.kids.length)<|Kf 3 (aP (.cons (bw _)<|.cons (bw _)<|.cons (bw _)<|.cons (bw _)<|.cons (bw _)<|.cons (bw _)<|.cons (bw _)<|.cons (cY<|rr0<|((u.kids++List.replicate a bd).take u.kids.length).map aY) .nil)<|by kernel_rfl:Le _ (AV.agg [iV u.act,iV u.item,iV u.n,iV u.kind,AV.str u.label,AV.ls (u.head.map aQ),AV.ls (u.words.map aQ),AV.ls (((u.kids++List.replicate a bd).take u.kids.length).map aY)]))
theorem iW{g:Nat}{bs:List AV}{p:PId}(hb:aq bs=0)(x:TUnit):aq [eU x,aK p,.func (.func g) [] bs]=0:=by
  have h1:(eU x).top=0:=by rw[<-aO];exact iZ x
  have h2:(AV.func (.func g) [] bs).top=0:=by simp only[AV.top,aq,hb];rfl
  exact kW.2 fun y hy=>by
    simp only[dO,List.mem_nil_iff,or_false]at hy
    rcases hy with rfl|rfl|rfl
    · omega
    · exact Kg p
    omega
theorem o3(g:Nat)(bs:List AV)(p:PId)(f:TUnit->TUnit)(hb:aq bs=0):∀(u:TUnit),nU u<=2^19->(∀x,x∈aT u->x.head.length<2^30/\x.words.length<2^30)->
    (∀v,v∈aT u->fI p v=true->kP 154 [eU v,aK p,.func (.func g) [] bs] (eU (f v)))->kP 154 [eU u,aK p,.func (.func g) [] bs] (eU (bL p f u)):=by
  refine TUnit.ind fun u ih hn ht hit=>?_
  have hA:=iW (g:=g) (bs:=bs) (p:=p) hb
  cases hi:fI p u with
  |true=>grind[rz,ch]
  | false=>
    have hkl:=bm u
    rw[mI hi]
    by_cases h0:u.kids=[]
    · have e:jD u (eV p f u.kids)=u:=by rw[h0,so];cases u;simp only[TUnit.kids]at h0;subst h0;rfl
      rw[e]
      exact ZH g bs p u (hA u) (by simp only[AV.top,aq,hb];rfl) hi (by simp_all) (by rw[h0];rfl)
    · exact ZG g bs p f u (hA u) (by simp only[AV.top,aq,hb];rfl) hi h0 (by omega) (fun k hk=>SY p k (by have:=iC hk;omega) fun x hx=>ht x (bq hk hx))
        fun k hk=>ih k hk (by have:=iC hk;omega) (fun x hx=>ht x (bq hk hx)) fun v hv=>hit v (bq hk hv)
theorem Be{bs:List AV}(rs:List Nat)(h0:f8 rs 0=0)(hb:aq bs=0):mV (f8 rs) (.ptr 0 0 0 0::bs)=.ptr 0 0 0 0::bs:=by
  grind[mV,Ev.ren,fX]
theorem A8{g:Nat}{bs:List AV}{u u2:TUnit}{n n2 c:Nat}{X X2:List AV}{A B:AObj}(hb:aq bs=0)(hX:aq X=0)(hX2:aq X2=0)(h:kD g (.ptr 0 0 0 0::bs) (aa [dF u (.slice 1 0 0 n (some c)),dG X]) (.tuple []) (aa [dF u2 (.slice 1 0 0 n2 (some c)),dG X2])):
    kD g (.ptr 0 0 0 0::bs) (aa [dF u (.slice 3 0 0 n (some c)),A,B,dG X]) (.tuple []) (aa [dF u2 (.slice 3 0 0 n2 (some c)),A,B,dG X2]):=
  pD jk [0,3] h (Be _ rfl hb) rfl rfl ⟨⟨rfl,vf (by kernel_rfl)⟩,⟨rfl,by show aq X<=2;omega⟩,trivial⟩ ⟨⟨rfl,vf (by kernel_rfl)⟩,⟨rfl,by show aq X2<=2;omega⟩,trivial⟩
    (by show Nat.mx _ (aq bs)<=2;rw[hb];exact vf (by kernel_rfl)) (bA _) ⟨by kernel_rfl,by rw[vE hX];kernel_rfl,trivial⟩ ⟨by kernel_rfl,by kernel_rfl,trivial⟩
    (by show _=AHeap.put (AHeap.put _ _ _) _ (kU _ (.row 8 false 0 X2));rw[vE hX2];kernel_rfl)
theorem Df{g:Nat}{bs:List AV}{u u2:TUnit}{n c:Nat}{X Y:List AV}{A B:AObj}(hb:aq bs=0)(hX:aq X=0)(h:kD g (.ptr 0 0 0 0::bs) (aa [dF u (.slice 1 0 0 n (some c)),dG X]) (.tuple []) (aa [dF u2 (.ls Y),dG X])):
    kD g (.ptr 0 0 0 0::bs) (aa [dF u (.slice 3 0 0 n (some c)),A,B,dG X]) (.tuple []) (aa [dF u2 (.ls Y),A,B,dG X]):=
  pD jk [0,3] h (Be _ rfl hb) rfl rfl ⟨⟨rfl,vf (by kernel_rfl)⟩,⟨rfl,by show aq X<=2;omega⟩,trivial⟩ ⟨⟨rfl,vf (by kernel_rfl)⟩,⟨rfl,by show aq X<=2;omega⟩,trivial⟩
    (by show Nat.mx _ (aq bs)<=2;rw[hb];exact vf (by kernel_rfl)) (bA _) ⟨by kernel_rfl,by rw[vE hX];kernel_rfl,trivial⟩ ⟨by kernel_rfl,by kernel_rfl,trivial⟩
    (by show _=AHeap.put (AHeap.put _ _ _) _ (kU _ (.row 8 false 0 X));rw[vE hX];kernel_rfl)
theorem j7{g:Nat}{bs:List AV}{u u2:TUnit}{A B:AObj}{K K2:AV}(hb:aq bs=0)(h1:aq [.agg [iV u.act,iV u.item,iV u.n,iV u.kind,.str u.label,.ls (u.head.map aQ),.ls (u.words.map aQ),K]]=0)(h2:aq [.agg [iV u2.act,iV u2.item,iV u2.n,iV u2.kind,.str u2.label,.ls (u2.head.map aQ),.ls (u2.words.map aQ),K2]]=0)(h:kD g (.ptr 0 0 0 0::bs) (aa [dF u K]) (.tuple []) (aa [dF u2 K2])):
    kD g (.ptr 0 0 0 0::bs) (aa [dF u K,A,B]) (.tuple []) (aa [dF u2 K2,A,B]):=
  fe jk 0 h1 h2 h (Be _ rfl hb) rfl rfl (by simp only[aq,AV.top,hb];rfl) rfl (by kernel_rfl) (by kernel_rfl)
theorem MC(g:Nat)(bs:List AV)(p:PId)(u u2:TUnit)(n2:Nat)(Z:Nat->List AV)(hA:aq [eU u,aK p,.func (.func g) [] bs]=0)(hp:(ay u.act p.a&&(ay u.item p.i&&ay u.n p.n))=true)(hl:u.kids.length<=2^20)(hne:u.kids≠[])(hn2:u2.kids.length=n2)
    (hdA:∀k,By (Nat.beq k 0) true->kD g (.ptr 0 0 0 0::bs) (aa [dF u (.slice 3 0 0 u.kids.length (some (u.kids.length+k))),vG p,zO,dG ((u.kids++List.replicate k bd).map aY)]) (.tuple []) (aa [dF u2 (.ls (u2.kids.map aY)),vG p,zO,dG ((u.kids++List.replicate k bd).map aY)]))
    (hdB:∀k,By (Nat.beq k 0) false->kD g (.ptr 0 0 0 0::bs) (aa [dF u (.slice 3 0 0 u.kids.length (some (u.kids.length+k))),vG p,zO,dG ((u.kids++List.replicate k bd).map aY)]) (.tuple []) (aa [dF u2 (.slice 3 0 0 n2 (some (u.kids.length+k))),vG p,zO,dG (u2.kids.map aY++Z k)])):kP 154 [eU u,aK p,.func (.func g) [] bs] (eU u2):=by
  let q:=ak (uLx u2);let q1:=[ak (uLx u)];let q2:=[iV p.a,iV p.i,iV p.n];let q3:=[ak [iV 0,iV 0,iV 0,iV 0,aj [],ab,ab,ab]];exact bp (ht:=oA) Tryz.func154<|Kv 5 (lV ((Tryz.prog).underlying 35) u.act u.item u.n p.a p.i p.n<|aa [aZ 8 false 0 q1,aZ 3 false 0 [ak q2],aZ 8 false 0 q3])<|Mt hp<|Mg 1<|Mq (FX u.kids hne hl (aZ 8 false 0 q1) (aZ 3 false 0 [ak q2])<|aZ 8 false 0 q3) fun a _=>Ks 2 (a.beq 0) (fun b=>Me (hdA a b)<|Kf 1<|bw q) fun b=>Me (hdB a b)<|M2 (.fza 0 7 3 [3,6]<|u2.kids.map aY) (js rt rt rt ti) (cp (aJ 0) (Wr (xs:=List.map aY u2.kids) (ys:=Z a) (n:=n2) sA)<|aX iZ u2.kids)<|Kf 1<|bw q
theorem MD(g:Nat)(bs:List AV)(p:PId)(u u2:TUnit)(hA:aq [eU u,aK p,.func (.func g) [] bs]=0)(hp:(ay u.act p.a&&(ay u.item p.i&&ay u.n p.n))=true)(h0:u.kids=[])
    (hdN:kD g (.ptr 0 0 0 0::bs) (aa [dF u .nils,vG p,zO]) (.tuple []) (aa [dF u2 (.ls (u2.kids.map aY)),vG p,zO]))
    (hdP:kD g (.ptr 0 0 0 0::bs) (aa [dF u (.ps [] true),vG p,zO]) (.tuple []) (aa [dF u2 (.ls (u2.kids.map aY)),vG p,zO])):kP 154 [eU u,aK p,.func (.func g) [] bs] (eU u2):=by
  obtain⟨a,i,n,k,l,h,w,ks⟩:=u
  simp only[TUnit.kids]at h0
  subst h0
  let q:=ak (uLx u2);let q1:=[iV p.a,iV p.i,iV p.n];exact bp (ht:=oA) Tryz.func154<|Kv 5 (lV ((Tryz.prog).underlying 35) (TUnit.mk a i n k l h w []).act (TUnit.mk a i n k l h w []).item (TUnit.mk a i n k l h w []).n p.a p.i p.n<|aa [aZ 8 false 0 [ak [iV (TUnit.mk a i n k l h w []).act,iV (TUnit.mk a i n k l h w []).item,iV (TUnit.mk a i n k l h w []).n,iV (TUnit.mk a i n k l h w []).kind,aj l,aW<|List.map aQ (TUnit.mk a i n k l h w []).head,aW<|List.map aQ (TUnit.mk a i n k l h w []).words,aW []]],aZ 3 false 0 [ak q1],aZ 8 false 0 [ak [iV 0,iV 0,iV 0,iV 0,aj [],ab,ab,ab]]])<|Mt hp<|Mg 1<|Mz 17 (fun(_:([]:List AV)=[])=>Mp Iv<|Ke 2 hdN<|Kf 1<|bw q)<|Mp Iw<|Ke 2 hdP<|Kf 1<|bw q
theorem kX{a b:List AV}(h1:aq a=0)(h2:aq b=0):aq (a++b)=0:=kW.2 fun x hx=>by
  rcases fK.1 hx with h|h
  · exact kW.1 h1 x h
  · exact kW.1 h2 x h
theorem SV(l:List TUnit):dA 8 (l.map aY)=true:=gi (fun u=>by cases u;rfl) l
theorem Vs(x:TUnit):dA 8 [eU x]=true:=by kernel_rfl
theorem OR(x:TUnit):(eU x).top=0:=by rw[<-aO];exact iZ x
theorem tH{i:Nat}{x:TUnit}{l:List AV}(h:aq l=0):aq (gg i (eU x) l)=0:=kW.2 fun y hy=>by
  unfold gg at hy
  rcases fK.1 hy with h1|h1
  · exact kW.1 h y (sV h1)
  · rcases dO.1 h1 with rfl|h1
    · exact OR x
    · exact kW.1 h y (Pr h1)
theorem Mu(i:Nat)(x:TUnit)(l:List TUnit):(uF i x l).map aY=gg i (eU x) (l.map aY):=by
  unfold uF gg
  rw[oJ,eg,List.map_take,List.map_drop,aO]
theorem NZ(i:Nat)(l:List TUnit):(l.eraseIdx i).map aY=(l.map aY).eraseIdx i:=by
  grind[List.eraseIdx_eq_take_drop_succ,List.map_take,List.map_drop]
theorem DW{i:Nat}{x:TUnit}{l:List TUnit}(h:i<=l.length):(uF i x l).length=l.length+1:=by
  grind[uF]
theorem G5(l:List TUnit)(k:Nat):(l++List.replicate k bd).map aY=l.map aY++List.replicate k (aY bd):=by simp_all
theorem mb(k:Nat):aq (List.replicate k (aY bd))=0:=by rw[<-List.map_replicate];exact aX iZ _
theorem PL(p:PId)(i:Nat)(u:TUnit)(hn:nU u<=2^19)(ht:∀x,x∈aT u->x.head.length<2^30/\x.words.length<2^30)(hv:∀v,v∈aT u->fI p v=true->i<v.kids.length):
    aL Tryz.prog G 154 [eU u,aK p,.func (.func 227) [] [.pptr [.int .i64 (.ofNat i)] 0 0]] (eU (bL p (dg i) u)):=by
  refine o3 _ _ p (dg i) rfl u hn ht fun v hm hid=>?_
  have hi:=hv v hm hid
  have hkl:=bm v
  have hvu:=dD hm
  have hl:v.kids.length<=2^20:=by omega
  refine Vv _ _ p v (dg i v) (v.kids.length-1) (fun k=>zU::List.replicate k (aY bd)) (iW rfl v) hid hl (fun e=>by grind) (by show(v.kids.eraseIdx i).length=_;grind) fun k=>?_
  have h:=Ss (v.kids.map aY) (List.replicate k (aY bd)) v.kids.length i hi (b9 _) hl (SV _) (kX (aX iZ _) (mb k))
  rw[qY]at h
  have hT:aq ((v.kids.map aY).eraseIdx i++(zU::List.replicate k (aY bd)))=0:=kX (by rw[<-NZ];exact aX iZ _) (by show Nat.mx zU.top (aq _)=0;rw[mb];rfl)
  rw[G5]
  show aE _ _ _ _ _ fun v1 h1=>v1=.tuple []/\h1=aa [dF v (.slice 3 0 0 (v.kids.length-1) (some (v.kids.length+k))),vG p,zO,dG ((v.kids.eraseIdx i).map aY++_)]
  rw[NZ]
  refine A8 rfl (kX (aX iZ _) (mb k)) hT (Zx v v.kids.length _ i _ _ (kX (aX iZ _) (mb k)) hT hi hl ?_)
  exact fe jk 1 (kX (aX iZ _) (mb k)) hT h rfl rfl (by simp_all) (by kernel_rfl) (by kernel_rfl) (by kernel_rfl) (by kernel_rfl)
theorem XC(x:TUnit)(t:Bool)(off len c:Nat)(X:List AV):kD 225 [.ps [eU x] t,.slice 0 0 off len (some c)] (aa [dG X]) (.bool false) (aa [dG X]):=
  BP (tS:=37) (tR:=4) (e:=39) (n:=8) Tryz.func225 (by kernel_rfl) (by kernel_rfl) (by kernel_rfl) (by kernel_rfl) (by simp_all) (by kernel_rfl) (ii _ _) (by kernel_rfl:(aa [dG X]).get 0=some (.row 8 false 0 X))
theorem HX(L:List AV)(x:TUnit)(z:AV)(Z:List AV)(n k i:Nat)(hi:i<=n)(hn:L.length=n)(hs:n<2^20)(hk:Z.length=k)(hf:dA 8 L=true)(hT:aq (L++z::Z)=0):kD 156 [.slice 0 0 0 n (some (n+(k+1))),nV i,.ps [eU x] true] (aa [dG (L++z::Z)]) (.slice 0 0 0 (n+1) (some (n+(k+1)))) (aa [dG (gg i (eU x) L++Z)]):=by
  rcases fm i n with h|h
  · grind[Rn,Vs,XC]
  · obtain rfl:i=n:=by omega
    exact Rp L Z (eU x) z true i k hn hs hk (Vs x)
theorem HK(L:List AV)(x:TUnit)(n i:Nat)(hi:i<=n)(hn:L.length=n)(hs:n<2^20)(hf:dA 8 L=true)(hT:aq L=0):kD 156 [.slice 0 0 0 n (some n),nV i,.ps [eU x] true] (aa [dG L]) (.ls (gg i (eU x) L)) (aa [dG L]):=by
  rcases fm i n with h|h
  · refine Rm L (eU x) true n i h hn hs (Vs x) hf hT (kW.2 fun y hy=>?_) (tH hT)
    rcases fK.1 hy with h1|h1
    · exact kW.1 hT y (sV h1)
    · rcases dO.1 h1 with rfl|h1
      · exact OR x
      · rw[(List.mem_replicate.1 h1).2];rfl
  · grind[Ro,Vs,tH]
theorem PH(p:PId)(i:Nat)(x u:TUnit)(hn:nU u<=2^19)(ht:∀x,x∈aT u->x.head.length<2^30/\x.words.length<2^30)(hv:∀v,v∈aT u->fI p v=true->i<=v.kids.length):
    aL Tryz.prog G 154 [eU u,aK p,.func (.func 155) [] [.pptr [.int .i64 (.ofNat i)] 0 0,.pptr [eU x] 0 0]] (eU (bL p (dQ i x) u)):=by
  have hb:aq [.pptr [.int .i64 (.ofNat i)] 0 0,.pptr [eU x] 0 0]=0:=by kernel_rfl
  refine o3 _ _ p (dQ i x) hb u hn ht fun v hm hid=>?_
  have hi:=hv v hm hid
  have hkl:=bm v
  have hvu:=dD hm
  have hl:v.kids.length<2^20:=by omega
  have hK:=aX iZ v.kids
  by_cases h0:v.kids=[]
  · rw[h0]at hi
    obtain rfl:i=0:=by simp_all
    have e:(dQ 0 x v).kids =[x]:=by show uF 0 x v.kids=[x];rw[h0];rfl
    have e2:(dQ 0 x v).kids.map aY=[eU x]:=by rw[e,eg,aO];rfl
    refine MD _ _ p v (dQ 0 x v) (iW hb v) hid h0 ?_ ?_
    · rw[e2];exact j7 (u2:=dQ 0 x v) hb (by kernel_rfl) (by kernel_rfl) (YX v x [eU x] (HJ x true))
    · rw[e2];exact j7 (u2:=dQ 0 x v) hb (by kernel_rfl) (by kernel_rfl) (YZ v x [eU x] (HW x true))
  · have e2:(dQ i x v).kids.map aY=gg i (eU x) (v.kids.map aY):=Mu i x v.kids
    refine MC _ _ p v (dQ i x v) (v.kids.length+1) (fun k=>List.replicate (k-1) (aY bd)) (iW hb v) hid (by omega) h0 (DW hi) (fun k hk=>?_) fun k hk=>?_
    · obtain rfl:k=0:=pF hk
      rw[e2,G5,List.replicate_zero,ef]
      refine Df (u2:=dQ i x v) hb hK (YW v x v.kids.length _ i _ _ hK ?_)
      exact fe jk 1 hK hK (HK (v.kids.map aY) x v.kids.length i hi (b9 _) hl (SV _) hK) rfl rfl (by simp_all) (by kernel_rfl) (by kernel_rfl) (by kernel_rfl) (by kernel_rfl)
    · obtain⟨j,rfl⟩:∃j,k=j+1:=⟨k-1,by grind[Nat.ne_of_beq_eq_false]⟩
      rw[e2,G5,show j+1-1=j from rfl,List.replicate_succ]
      have hT:aq (v.kids.map aY++aY bd::List.replicate j (aY bd))=0:=by rw[<-List.replicate_succ];grind[kX,mb]
      have hT2:aq (gg i (eU x) (v.kids.map aY)++List.replicate j (aY bd))=0:=kX (tH hK) (mb _)
      refine A8 (u2:=dQ i x v) hb hT hT2 (YJ v x v.kids.length _ i _ _ hT hT2 ?_)
      exact fe jk 1 hT hT2 (HX (v.kids.map aY) x (aY bd) (List.replicate j (aY bd)) v.kids.length j i hi (b9 _) hl (qY ..) (SV _) hT) rfl rfl (by simp_all) (by kernel_rfl) (by kernel_rfl) (by kernel_rfl) (by kernel_rfl)
theorem PG(p:PId)(i:Nat)(x u:TUnit)(hn:nU u<=2^19)(ht:∀x,x∈aT u->x.head.length<2^30/\x.words.length<2^30)(hv:∀v,v∈aT u->fI p v=true->i<=v.kids.length):
    aL Tryz.prog G 154 [eU u,aK p,.func (.func 166) [] [.pptr [.int .i64 (.ofNat i)] 0 0,.pptr [eU x] 0 0]] (eU (bL p (dQ i x) u)):=by
  have hb:aq [.pptr [.int .i64 (.ofNat i)] 0 0,.pptr [eU x] 0 0]=0:=by kernel_rfl
  refine o3 _ _ p (dQ i x) hb u hn ht fun v hm hid=>?_
  have hi:=hv v hm hid
  have hkl:=bm v
  have hvu:=dD hm
  have hl:v.kids.length<2^20:=by omega
  have hK:=aX iZ v.kids
  by_cases h0:v.kids=[]
  · rw[h0]at hi
    obtain rfl:i=0:=by simp_all
    have e:(dQ 0 x v).kids =[x]:=by show uF 0 x v.kids=[x];rw[h0];rfl
    have e2:(dQ 0 x v).kids.map aY=[eU x]:=by rw[e,eg,aO];rfl
    refine MD _ _ p v (dQ 0 x v) (iW hb v) hid h0 ?_ ?_
    · rw[e2];exact j7 (u2:=dQ 0 x v) hb (by kernel_rfl) (by kernel_rfl) (XP v x [eU x] (HJ x true))
    · rw[e2];exact j7 (u2:=dQ 0 x v) hb (by kernel_rfl) (by kernel_rfl) (XO v x [eU x] (HW x true))
  · have e2:(dQ i x v).kids.map aY=gg i (eU x) (v.kids.map aY):=Mu i x v.kids
    refine MC _ _ p v (dQ i x v) (v.kids.length+1) (fun k=>List.replicate (k-1) (aY bd)) (iW hb v) hid (by omega) h0 (DW hi) (fun k hk=>?_) fun k hk=>?_
    · obtain rfl:k=0:=pF hk
      rw[e2,G5,List.replicate_zero,ef]
      refine Df (u2:=dQ i x v) hb hK (XR v x v.kids.length _ i _ _ hK ?_)
      exact fe jk 1 hK hK (HK (v.kids.map aY) x v.kids.length i hi (b9 _) hl (SV _) hK) rfl rfl (by simp_all) (by kernel_rfl) (by kernel_rfl) (by kernel_rfl) (by kernel_rfl)
    · obtain⟨j,rfl⟩:∃j,k=j+1:=⟨k-1,by grind[Nat.ne_of_beq_eq_false]⟩
      rw[e2,G5,show j+1-1=j from rfl,List.replicate_succ]
      have hT:aq (v.kids.map aY++aY bd::List.replicate j (aY bd))=0:=by rw[<-List.replicate_succ];grind[kX,mb]
      have hT2:aq (gg i (eU x) (v.kids.map aY)++List.replicate j (aY bd))=0:=kX (tH hK) (mb _)
      refine A8 (u2:=dQ i x v) hb hT hT2 (XS v x v.kids.length _ i _ _ hT hT2 ?_)
      exact fe jk 1 hT hT2 (HX (v.kids.map aY) x (aY bd) (List.replicate j (aY bd)) v.kids.length j i hi (b9 _) hl (qY ..) (SV _) hT) rfl rfl (by simp_all) (by kernel_rfl) (by kernel_rfl) (by kernel_rfl) (by kernel_rfl)
theorem PD(p:PId)(l:List PWord)(u:TUnit)(hn:nU u<=2^19)(ht:∀x,x∈aT u->x.head.length<2^30/\x.words.length<2^30):
    kP 154 [eU u,aK p,.func (.func 159) [] [.pptr [.ls (l.map aQ)] 0 0]] (eU (bL p (lx l) u)):=by
  have hb:aq [.pptr [.ls (l.map aQ)] 0 0]=0:=by kernel_rfl
  refine o3 _ _ p (lx l) hb u hn ht fun v hm hid=>?_
  have hkl:=bm v
  have hvu:=dD hm
  exact yc _ _ p v ((lx l) v) (iW hb v) hid (by omega) (j7 hb (by kernel_rfl) (by kernel_rfl) (Zq v l))
theorem PF(p:PId)(l:List PWord)(u:TUnit)(hn:nU u<=2^19)(ht:∀x,x∈aT u->x.head.length<2^30/\x.words.length<2^30):
    kP 154 [eU u,aK p,.func (.func 161) [] [.pptr [.ls (l.map aQ)] 0 0]] (eU (bL p (lx l) u)):=by
  have hb:aq [.pptr [.ls (l.map aQ)] 0 0]=0:=by kernel_rfl
  refine o3 _ _ p (lx l) hb u hn ht fun v hm hid=>?_
  have hkl:=bm v
  have hvu:=dD hm
  exact yc _ _ p v ((lx l) v) (iW hb v) hid (by omega) (j7 hb (by kernel_rfl) (by kernel_rfl) (Zi v l))
theorem PI(p:PId)(l:List PWord)(u:TUnit)(hn:nU u<=2^19)(ht:∀x,x∈aT u->x.head.length<2^30/\x.words.length<2^30):
    kP 154 [eU u,aK p,.func (.func 163) [] [.pptr [.ls (l.map aQ)] 0 0]] (eU (bL p (wW l) u)):=by
  have hb:aq [.pptr [.ls (l.map aQ)] 0 0]=0:=by kernel_rfl
  refine o3 _ _ p (wW l) hb u hn ht fun v hm hid=>?_
  have hkl:=bm v
  have hvu:=dD hm
  exact yc _ _ p v ((wW l) v) (iW hb v) hid (by omega) (j7 hb (by kernel_rfl) (by kernel_rfl) (ZS v l))
theorem PE(p:PId)(d:PDeed)(u:TUnit)(hn:nU u<=2^19)(ht:∀x,x∈aT u->x.head.length<2^30/\x.words.length<2^30):
    kP 154 [eU u,aK p,.func (.func 165) [] [.pptr [aU d] 0 0]] (eU (bL p (nM d.it.label) u)):=by
  have hb:aq [.pptr [aU d] 0 0]=0:=by kernel_rfl
  refine o3 _ _ p (nM d.it.label) hb u hn ht fun v hm hid=>?_
  have hkl:=bm v
  have hvu:=dD hm
  exact yc _ _ p v ((nM d.it.label) v) (iW hb v) hid (by omega) (j7 hb (by kernel_rfl) (by kernel_rfl) (Zg v d))
end Go.Proofs.YtadodlkibeofjaaGreatDoor
