/- Functions walked: what each of them answers, for For each unit of the book of a day, Addresses contains its current address and Holders of that address contains the unit: part 2. Conditions: those that each theorem names. -/
import Derived.Test.YtdhkhecalpkngaaGreatDoorH1
namespace Go.Proofs.YtdhkhecalpkngaaGreatDoor
open Go Go.Ev
theorem lI(u:TUnit)(s:PStep):kP 111 [eU u,aK s] (.bool (bN s u)):=by
  have rr0 b' (h:(bN s u)=b':=by(simp only[bN,bc,aS,aj,bS, *];first|done|rfl)):=h;exact b6 Tryz.func111<|Kb 8 (aa u.kind s.kind) (fun a=>Kt 0 a<|Kt 0 a<|Kt 0 a<|Kt 0 a<|Ku 0 a<|Kf 0<|cC<|rr0<|dH u.label s.label) fun a=>Mh a<|Mh a<|Mh a<|Mh a<|My a<|Ky 0<|rr0 false
noncomputable abbrev jT(p:List PStep):AObj:=.row 1 false 0 [.ls (p.map aK)]
noncomputable abbrev Fb(ep n:Nat):AObj:=.row 1 false 0 [.slice 2 ep 0 n none]
noncomputable abbrev CU(ep:Nat)(l:List TUnit):AObj:=.row 8 true ep (l.map aY)
noncomputable abbrev Ow:AObj:=.row 1 false 0 [.nils]
theorem Dg(s:PStep)(rs:List PStep)(u:TUnit)(h:By (bN s u) false):kD 110 [eU u,.ptr 0 0 0 0,.ptr 1 0 0 0] (aw [jT (s::rs),Ow]) (.tuple []) (aw [jT (s::rs),Ow]):=by
  have h':bN s u=false:=h
  exact dL Tryz.func110 fun a=>Kp 4 (lI u s)<|Mh h'<|M1 (.frz 2 []) (cF rt rt ti)<|Mf a
theorem KV(s:PStep)(rs:List PStep)(u:TUnit)(h:By (bN s u) true):kD 110 [eU u,.ptr 0 0 0 0,.ptr 1 0 0 0] (aw [jT (s::rs),Ow]) (.tuple []) (aw [jT (s::rs),Fb 0 1,CU 0 [u]]):=by
  have h':bN s u=true:=h
  exact GJ Tryz.func110<|Kp 4 (lI u s)<|Mt h'<|Mg 7<|M0 (.ren [0,1,3,2] [] [])<|M1 (.frz 3 []) (kg rt rt rt ti)<|Mf<|et (aV<|bP []) (by(simp only[CU,eg,zX,aR];rfl):(aw [AObj.row 1 false 0 [AV.ls ((s::rs).map aK)],AObj.row 1 false 0 [AV.slice 2 0 0 1 none],AObj.row 8 true 0 [AV.agg (uLx u)]])=(aw [jT (s::rs),Fb 0 1,CU 0 [u]]))
theorem OB(s:PStep)(rs:List PStep)(u:TUnit)(ep n:Nat)(l:List TUnit)(h:By (bN s u) false):kD 110 [eU u,.ptr 0 0 0 0,.ptr 1 0 0 0] (aw [jT (s::rs),Fb ep n,CU ep l]) (.tuple []) (aw [jT (s::rs),Fb ep n,CU ep l]):=by
  have h':bN s u=false:=h
  exact dL Tryz.func110 fun a=>Kp 4 (lI u s)<|Mh h'<|M1 (.frz 3 []) (kg (tR 8 true ep 3<|aW iB l) rt rt ti)<|Mf a
theorem OC(s:PStep)(rs:List PStep)(u:TUnit)(ep n:Nat)(l:List TUnit)(h:By (bN s u) true)(hn:n=l.length)(hl:l.length<2^30):kD 110 [eU u,.ptr 0 0 0 0,.ptr 1 0 0 0] (aw [jT (s::rs),Fb ep n,CU ep l]) (.tuple []) (aw [jT (s::rs),Fb (ep+1) (n+1),CU (ep+1) (l++[u])]):=by
  have h':bN s u=true:=h
  let q:=[iV 0,iV 0,iV 0,iV 0,ax [],ab,ab,ab];let q1:=List.map aY l++[ak q];exact dL Tryz.func110 fun a=>Kp 4 (lI u s)<|Mt h'<|Mg 3<|Mw (.apx q1<|.rix<|.rst (ak q) ((l++[u]).map aY)<|.go 0<|.frz 3 [] .fin)<|Bz rt (iO (tR 8 true ep 4<|aW iB l) rt) (et (mo _ _:([ak q]:List AV)≠[]) rt) (et (cF (aV ep) (sA:n=(l.map aY).length) (by(refine aF (m:=2^31) ?_ ?_ ?_<;>(try simp only[lC,lN])<;>omega):small (n+([AV.agg [iV 0,iV 0,iV 0,iV 0,AV.str [],AV.nils,AV.nils,AV.nils]]).length) 120=true))<|aV q1) (et (aV<|ep+1) (oA:n<n+1)) rt (iO (tR 8 true (ep+1) 4 (by exact XW _ rfl:az q1=0)) rt) (cF (aV<|ep+1) (Q6 (f:=aY) (l:=l) (z:=ak q) (oA:n=(l).length))<|Qq (f:=aY) (g:=Go.Ev.eU) aR (l:=l) (z:=ak q) (w:=u) (oA:n=(l).length)) (kg (tR 8 true (ep+1) 3<|aW iB<|l++[u]) rt rt ti) a
theorem Ib(s:PStep)(rs:List PStep):∀(u:TUnit),∀(ep n:Nat)(l:List TUnit),n=l.length->l.length+nU u<2^30->kC 109 [eU u,.func (.func 110) [] [.ptr 0 0 0 0,.ptr 1 0 0 0]] (aw [jT (s::rs),Fb ep n,CU ep l])
    (fun v h=>∃y:Nat×Nat×List TUnit,(y.2.1=y.2.2.length/\y.2.2=l++mK s u)/\v=.tuple []/\h=aw [jT (s::rs),Fb y.1 y.2.1,CU y.1 y.2.2]):=by
  refine TUnit.ind fun u ih ep n l hn hl=>?_
  have hq:=ju u
  have hkl:=bg u
  have hp:=AK s u
  rcases Bool.eq_false_or_eq_true (bN s u)with hc|hc
  · rw[hc]at hp
    exact qS Tryz.func109 fun a=>K1 2 (.frz 3 [1,2,6,7]) (kg (tR 8 true ep 3<|aW iB l) rt rt ti)<|Me (OC s rs u ep n l hc hn oA)<|Kl 2 11 (ln aY u.kids)<|Mg 0<|TS aY u.kids (ep+1) (n+1) (l++[u]) [1,10,11,12] (fun a _ b c d=>([bx (bz 110) [] [ah 0 0 0 0,ah 1 0 0 0],aJ<|u.kids.map aY,nV u.kids.length,nV a],[aZ 1 false 0 [aJ<|(s::rs).map aK],aZ 1 false 0 [bQ 2 b 0 c none],aZ 8 true b<|d.map aY])) (fun a _ b c=>b=c.length/\c++dm s a=l++[u]++dm s u.kids/\c.length+eL a<2^30) gR (fun _ _ b c d _ _ _ e _=>Kh 0 e<|Mf<|a (b,c,d)<|by grind[np]) fun a _ b c d e f g i j k m _ o _=>have o:=(o).trans<|congrArg some<|aR g;have:=cw (J:=fun a b=>b.2.1=b.2.2.length/\b.2.2++dm s a=l++[u]++dm s u.kids/\b.2.2.length+eL a<2^30) (a:=(b,c,d)) k f;have e:=aA e k;have f:d.length+nU g<2^30:=(by grind[bF]);Kt 0 m<|Mx o<|K1 4 (.frz 3 [1,10,11,12,16,17]) (kg (tR 8 true b 3<|aW iB d) rt rt ti)<|Mq (ih g e b c d oA f) fun b _=>Kl 0 19 (dq a)<|Kf 0<|j b.1 b.2.1 b.2.2<|by grind[bF,iY,m7]
  · rw[hc]at hp
    exact qS Tryz.func109 fun a=>K1 2 (.frz 3 [1,2,6,7]) (kg (tR 8 true ep 3<|aW iB l) rt rt ti)<|Me (OB s rs u ep n l hc)<|Kl 2 11 (ln aY u.kids)<|Mg 0<|TS aY u.kids ep n l [1,10,11,12] (fun a _ b c d=>([bx (bz 110) [] [ah 0 0 0 0,ah 1 0 0 0],aJ<|u.kids.map aY,nV u.kids.length,nV a],[aZ 1 false 0 [aJ<|(s::rs).map aK],aZ 1 false 0 [bQ 2 b 0 c none],aZ 8 true b<|d.map aY])) (fun a _ b c=>b=c.length/\c++dm s a=l++dm s u.kids/\c.length+eL a<2^30) gR (fun _ _ b c d _ _ _ e _=>Kh 0 e<|Mf<|a (b,c,d)<|by grind[np]) fun a _ b c d e f g i j k m _ o _=>have o:=(o).trans<|congrArg some<|aR g;have:=cw (J:=fun a b=>b.2.1=b.2.2.length/\b.2.2++dm s a=l++dm s u.kids/\b.2.2.length+eL a<2^30) (a:=(b,c,d)) k f;have e:=aA e k;have f:d.length+nU g<2^30:=(by grind[bF]);Kt 0 m<|Mx o<|K1 4 (.frz 3 [1,10,11,12,16,17]) (kg (tR 8 true b 3<|aW iB d) rt rt ti)<|Mq (ih g e b c d oA f) fun b _=>Kl 0 19 (dq a)<|Kf 0<|j b.1 b.2.1 b.2.2<|by grind[bF,iY,m7]
theorem Ic(s:PStep)(rs:List PStep):∀(u:TUnit),nU u<=2^20->By (mK s u).isEmpty true->kD 109 [eU u,.func (.func 110) [] [.ptr 0 0 0 0,.ptr 1 0 0 0]] (aw [jT (s::rs),Ow]) (.tuple []) (aw [jT (s::rs),Ow]):=by
  refine TUnit.ind fun u ih hn he=>?_
  have hkl:=bg u
  have hp:=AK s u
  have he':=pv.1 (show(mK s u).isEmpty=true from he)
  rw[he']at hp
  rcases Bool.eq_false_or_eq_true (bN s u)with hc|hc
  · grind
  · rw[hc]at hp
    have hp:dm s u.kids=[]:=hp.symm
    exact dL Tryz.func109 fun a=>K1 2 (.frz 2 [1,2,6,7]) (cF rt rt ti)<|Me (Dg s rs u hc)<|Kl 2 11 (ln aY u.kids)<|Mg 0<|wS aY u.kids [1,10,11,12] (fun a _=>([bx (bz 110) [] [ah 0 0 0 0,ah 1 0 0 0],aJ<|u.kids.map aY,nV u.kids.length,nV a],[aZ 1 false 0 [aJ<|(s::rs).map aK],aZ 1 false 0 [ab]])) (fun a=>dm s a=[]) oA (fun _ _ _ _ _ b _=>Kh 0 b<|Mf a) fun a _ b _ c d e f g _ h i=>have h:=h.trans<|congrArg some<|aR c;have j:=aA b f;have b:=bu (qz<|gv<|aA b f) hn;have f:(mK s c).isEmpty=true:=(by rw[iY]at i;rw[(List.append_eq_nil_iff.1 i).1];rfl);Kt 0 g<|Mx h<|K1 4 (.frz 2 [1,10,11,12,16,17]) (cF rt rt ti)<|Me (ih c j b f)<|Kl 0 19 (dq a)<|Kf 0<|e<|by grind[iY]
theorem Sr(s:PStep)(rs:List PStep):∀(u:TUnit),nU u<=2^20->By (mK s u).isEmpty false->kC 109 [eU u,.func (.func 110) [] [.ptr 0 0 0 0,.ptr 1 0 0 0]] (aw [jT (s::rs),Ow])
    (fun v h=>∃y:Nat×Nat×List TUnit,(y.2.1=y.2.2.length/\y.2.2=mK s u)/\v=.tuple []/\h=aw [jT (s::rs),Fb y.1 y.2.1,CU y.1 y.2.2]):=by
  refine TUnit.ind fun u ih hn he=>?_
  have hq:=ju u
  have hkl:=bg u
  have hp:=AK s u
  rcases Bool.eq_false_or_eq_true (bN s u)with hc|hc
  · rw[hc]at hp
    exact qS Tryz.func109 fun a=>K1 2 (.frz 2 [1,2,6,7]) (cF rt rt ti)<|Me (KV s rs u hc)<|Kl 2 11 (ln aY u.kids)<|Mg 0<|TS aY u.kids (0:Nat) (1:Nat) ([u]:List TUnit) [1,10,11,12] (fun a _ b c d=>([bx (bz 110) [] [ah 0 0 0 0,ah 1 0 0 0],aJ<|u.kids.map aY,nV u.kids.length,nV a],[aZ 1 false 0 [aJ<|(s::rs).map aK],aZ 1 false 0 [bQ 2 b 0 c none],aZ 8 true b<|d.map aY])) (fun a _ b c=>b=c.length/\c++dm s a=[u]++dm s u.kids/\c.length+eL a<2^30) gR (fun _ _ b c d _ _ _ e _=>Kh 0 e<|Mf<|a (b,c,d)<|by grind[np]) fun a _ b c d e f g i j k l _ m _=>have m:=(m).trans<|congrArg some<|aR g;have:=cw (J:=fun a b=>b.2.1=b.2.2.length/\b.2.2++dm s a=[u]++dm s u.kids/\b.2.2.length+eL a<2^30) (a:=(b,c,d)) k f;have:=aA e k;have e:d.length+nU g<2^30:=(by grind[bF]);Kt 0 l<|Mx m<|K1 4 (.frz 3 [1,10,11,12,16,17]) (kg (tR 8 true b 3<|aW iB d) rt rt ti)<|Mq (Ib s rs g b c d oA e) fun b _=>Kl 0 19 (dq a)<|Kf 0<|j b.1 b.2.1 b.2.2<|by grind[bF,iY,m7]
  · rw[hc]at hp
    have hne:dm s u.kids≠[]:=fun e=>by
      simp_all
    exact qS Tryz.func109 fun a=>K1 2 (.frz 2 [1,2,6,7]) (cF rt rt ti)<|Me (Dg s rs u hc)<|Kl 2 11 (ln aY u.kids)<|Mg 0<|ka Nat Nat (List TUnit) aY u.kids [1,10,11,12] (fun a _=>([bx (bz 110) [] [ah 0 0 0 0,ah 1 0 0 0],aJ<|u.kids.map aY,nV u.kids.length,nV a],[aZ 1 false 0 [aJ<|(s::rs).map aK],aZ 1 false 0 [ab]])) (fun a _ b c d=>([bx (bz 110) [] [ah 0 0 0 0,ah 1 0 0 0],aJ<|u.kids.map aY,nV u.kids.length,nV a],[aZ 1 false 0 [aJ<|(s::rs).map aK],aZ 1 false 0 [bQ 2 b 0 c none],aZ 8 true b<|d.map aY])) (fun a=>a≠[]/\dm s a=dm s u.kids) (fun a _ b c=>b=c.length/\c++dm s a=dm s u.kids/\c.length+eL a<2^30) (by(exact⟨LP rfl hne,rfl⟩)) (fun _ _ _ _ _ _ _=>Mw .abs (sA:False)) (fun a _ b c d f g i j k _ l _=>have l:=(l).trans<|congrArg some<|aR d;have:=cw (J:=fun a _=>a≠[]/\dm s a=dm s u.kids) (a:=()) j c;have c:=aA b j;have m:=bu (qz<|gv<|aA b j) hn;have:nU d+eL f<=2^20:=(by have z:=ph b j;omega);Kt 0 k<|Mx l<|K1 4 (.frz 2 [1,10,11,12,16,17]) (cF rt rt ti)<|Ms (mK s d).isEmpty (fun b=>Me (Ic s rs d m b)<|Kl 0 19 (dq a)<|Kf 0<|g<|by(have e:dm s f=dm s u.kids:=(by grind[iY]);exact⟨LP e hne,e⟩)) fun b=>Mq (ih d c m b) fun b _=>Kl 0 19 (dq a)<|Kf 0<|i b.1 b.2.1 b.2.2<|by grind[iY,m7]) (fun _ _ b c d _ _ _ f g=>Kh 0 f<|Mf<|a (b,c,d)<|by(refine⟨g.1,?_⟩;have:=g.2.1;rw[np,eF]at this;simp_all)) fun a _ b c d f g i j _ k l m _ n _=>have n:=(n).trans<|congrArg some<|aR i;have:=cw (J:=fun a b=>b.2.1=b.2.2.length/\b.2.2++dm s a=dm s u.kids/\b.2.2.length+eL a<2^30) (a:=(b,c,d)) l g;have:=aA f l;have:=bu (qz<|gv<|aA f l) hn;have:nU i+eL j<=2^20:=(by have z:=ph f l;omega);Kt 0 m<|Mx n<|K1 4 (.frz 3 [1,10,11,12,16,17]) (kg (tR 8 true b 3<|aW iB d) rt rt ti)<|Mq (Ib s rs i b c d oA<|by grind[bF]) fun b _=>Kl 0 19 (dq a)<|Kf 0<|k b.1 b.2.1 b.2.2<|by grind[iY,m7]
theorem Vt(u:TUnit)(hb:jZ []=true):kP 74 [eU u,.ls (([]:List PStep).map aK)] (.ls ((dF u []).map aY)):=by
  have hv:=pV [] (by simp) (fun s h=>by grind)
  rw[HO hb]
  have rr0 b' (h:(List.map aY [u])=b':=by(rw[eg,aR];rfl)):=h;let q:=[ak (uLx u)];exact b6 Tryz.func74<|Kp 3 hv<|Kf 10 (Le.lsp (rr0 q)<|by rfl:Le _ (AV.ps q true))
def HT(u:TUnit)(s:PStep)(rs:List PStep)(z1000:List TUnit):Prop:=dF u (s::rs)=gH rs z1000/\eL z1000<=2^22
noncomputable def HS(u:TUnit)(s:PStep)(rs:List PStep)(z1000:List TUnit):List AV×List AObj:=([AV.ptr 0 0 0 0,AV.ptr 1 0 0 0],[AObj.row 1 false 0 [AV.ls ((s::rs).map aK)],AObj.row 1 false 0 [AV.ls (z1000.map aY)]])
theorem SX(u:TUnit)(s:PStep)(rs:List PStep)(hn:nU u<=2^11)(hl:(s::rs).length<2^40)(hs:∀x,x∈s::rs->x.label.length<=2^39):kP 74 [eU u,.ls ((s::rs).map aK)] (.ls ((dF u (s::rs)).map aY)):=by
  have hv:=pV (s::rs) hl hs
  have hk:=pU s
  have hpb:=HV s u fun x hx=>eA hx
  have hpm:nU u*nU u<=2^11*2^11:=Nat.mul_le_mul hn hn
  have hd:((s::rs).drop 1).length=rs.length:=rfl
  have rr0 b' (h:((dF u (s::rs)).map aY)=b':=by first|rfl|(rw[KK ‹_›];rfl)|(rw[hj0.1,Jd])):=h;exact b6 Tryz.func74<|Kp 3 hv<|Kn 0 (jZ<|s::rs) (fun _=>Kf 0 (Le.lsn<|rr0 []:Le _ (ab))) fun _=>Mg 0<|Mj (List TUnit) [3,5] (HS u s rs) (HT u s rs) (fun a=>Kl 1 21 (ln aK<|s::rs)<|Kp 5 hk<|Kb 0 (aa s.kind 0&&dH s.label []) (fun _=>Kl 1 31 (Le.lsp (t:=true) (Eq.symm<|VW (f:=aY) (g:=Go.Ev.eU) (ws:=[u]) aR) (aV 0:az ([ak (uLx u)])=0))<|Mg 0<|M0 (.ren [1,2,0] [] [3,5])<|M1 (.frz 2 [3,5]) (cF rt rt ti)<|Mf<|a [u] (by exact⟨HP (by omega) (by assumption),by grind[bF,mL]⟩:dF u (s::rs)=gH rs [u]/\eL [u]<=2^22)) fun _=>Mg 1<|M0 (.ren [1,2,0] [] [3,5,16,17])<|M1 (.frz 2 [3,5,16,17]) (cF rt rt ti)<|Ms (mK s u).isEmpty (fun b=>Me (Ic s rs u oA b)<|M1 (.obw 1<|aJ []) (Xt bO rfl rfl)<|Mf<|a [] (by exact⟨by rw[xG (by omega) (by assumption),pv.1 b],by grind⟩:dF u (s::rs)=gH rs []/\eL []<=2^22)) fun b=>Mq (Sr s rs u oA b) fun b c=>M2 (.fzo 1 2 [3,5]<|b.2.2.map aY) (cF rt rt ti) (cF (aV b.1) (tA aY b.2.2 b.2.1 (oA:(b.2.2).length=b.2.1))<|aW iB b.2.2)<|Mf<|a b.2.2 (by exact⟨by rw[xG (by omega) (by assumption),c.2],by grind⟩:dF u (s::rs)=gH rs b.2.2/\eL b.2.2<=2^22)) fun a b=>have:dF u (s::rs)=gH rs a/\eL a<=2^22:=b;K1 0 (.slp<|((s::rs).drop 1).map aK) (cF (hM 2 aK (s::rs) fun _=>rfl) (et (sA:1<=((s::rs).map aK).length) (oA:((s::rs).map aK).length<=((s::rs).map aK).length))<|Zc (f:=aK) (l:=s::rs) (k:=1))<|Kl 0 34 (ln aK<|List.drop 1<|s::rs)<|Mg 0<|M0 (.ren [1,0] [] [5,33,34,35])<|M1 (.frz 1 [5,33,34,35]) (et rt ti)<|JY aK (List.drop 1<|s::rs) a [5,33,34,35] (fun a _ b=>([ah 0 0 0 0,aJ<|((s::rs).drop 1).map aK,nV ((s::rs).drop 1).length,nV a],[aZ 1 false 0 [aJ<|b.map aY]])) (fun a b=>dF u (s::rs)=gH a b/\eL b<=2^22) sA (fun _ _ a _ _ _ b hj0=>Kh 0 b<|Kf 1<|ct<|rr0<|a.map aY) fun a _ b _ _ c d e _ f _ g hj0=>have:b.length<=eL b:=yH _;Kt 0 f<|Mx g<|Kl 5 40 (ln aY b)<|Mg 0<|ka Nat Nat (List TUnit) aY b [5,7,8,33,34,35,39,40,41] (fun d _=>([ah 0 0 0 0,ah 1 0 0 0,ab,aJ<|((s::rs).drop 1).map aK,nV ((s::rs).drop 1).length,nV a,aJ<|b.map aY,nV b.length,nV d],[aZ 1 false 0 [aJ<|b.map aY],aZ 2 false 0 [ak [iV c.kind,ax c.label]]])) (fun d _ e f g=>([ah 0 0 0 0,ah 1 0 0 0,bQ 2 e 0 f none,aJ<|((s::rs).drop 1).map aK,nV ((s::rs).drop 1).length,nV a,aJ<|b.map aY,nV b.length,nV d],[aZ 1 false 0 [aJ<|b.map aY],aZ 2 false 0 [ak [iV c.kind,ax c.label]],aZ 8 true e<|g.map aY])) (fun a=>cM c a=cM c b) (fun a _ d e=>d=e.length/\e++cM c a=cM c b/\e.length+eL a<2^30) (by rfl) (fun _ _ _ _ _ b c=>Kh 0 b<|Kl 0 61 bO<|Kl 1 62 (dq a)<|K1 0 (.frz 1 [5,33,34,35]) (et rt ti)<|Mf<|e []<|by exact fA hj0 c) (fun d _ e f g i j k l n _ o _=>have p:=(o).trans<|congrArg some<|aR g;have:=cw (J:=fun a _=>cM c a=cM c b) (a:=()) l f;have:nU g+eL i<=eL b:=ph e l;have:g.kids.length<nU g:=bg g;have:nU g=1+eL g.kids:=ju g;Kt 0 n<|Mx p<|Kl 5 47 (ln aY g.kids)<|K1 0 (.frz 2 [5,7,8,33,34,35,39,40,41,46,47,48]) (cF rt rt ti)<|ka Nat Nat (List TUnit) aY g.kids [5,7,8,33,34,35,39,40,41,46,47,48] (fun e _=>([ah 0 0 0 0,ah 1 0 0 0,ab,aJ<|((s::rs).drop 1).map aK,nV ((s::rs).drop 1).length,nV a,aJ<|b.map aY,nV b.length,nV d,aJ<|g.kids.map aY,nV g.kids.length,nV e],[aZ 1 false 0 [aJ<|b.map aY],aZ 2 false 0 [ak [iV c.kind,ax c.label]]])) (fun e _ f i j=>([ah 0 0 0 0,ah 1 0 0 0,bQ 2 f 0 i none,aJ<|((s::rs).drop 1).map aK,nV ((s::rs).drop 1).length,nV a,aJ<|b.map aY,nV b.length,nV d,aJ<|g.kids.map aY,nV g.kids.length,nV e],[aZ 1 false 0 [aJ<|b.map aY],aZ 2 false 0 [ak [iV c.kind,ax c.label]],aZ 8 true f<|j.map aY])) (fun a=>List.filter (bN c) a++cM c i=cM c b) (fun a _ d e=>d=e.length/\e++(List.filter (bN c) a++cM c i)=cM c b/\e.length+(eL a+eL i)<2^30) (by simp_all[gA]) (fun _ _ _ _ _ a _=>Kh 0 a<|Kl 0 60 (dq d)<|Kf 0<|j sA) (fun a _ d e f j k l n p _ o _=>have o:=(o).trans<|congrArg some<|aR f;have:=cw (J:=fun a _=>List.filter (bN c) a++cM c i=cM c b) (a:=()) n e;have:nU f+eL j<=eL g.kids:=ph d n;Kt 0 p<|Mx o<|Kp 4 (lI f c)<|Mb (bN c f) (fun _=>K1 3 (.obj 3<|aZ 8 true 0<|List.map aY [f]) (congrArg (aZ 8 true 0)<|VW (f:=aY) (g:=Go.Ev.eU) (ws:=[f]) aR)<|Kl 1 59 (dq a)<|K1 0 (.ren [0,1,3,2] [3] [5,7,8,33,34,35,39,40,41,46,47,48]) (tS 8 true 0<|aW iB [f])<|M1 (.frz 3 [5,7,8,33,34,35,39,40,41,46,47,48]) (kg (tR 8 true 0 3<|aW iB [f]) rt rt ti)<|Mf<|l 0 1 [f] gR) fun _=>Kl 0 59 (dq a)<|K1 0 (.frz 2 [5,7,8,33,34,35,39,40,41,46,47,48]) (cF rt rt ti)<|Mf<|k sA) (fun _ _ a e f _ _ _ g _=>Kh 0 g<|Kl 0 60 (dq d)<|Kf 0<|k a e f gR) fun a _ d e f j k l n _ p q r _ o _=>have o:=(o).trans<|congrArg some<|aR l;have k:=cw (J:=fun a d=>d.2.1=d.2.2.length/\d.2.2++(List.filter (bN c) a++cM c i)=cM c b/\d.2.2.length+(eL a+eL i)<2^30) (a:=(d,e,f)) q k;have:nU l+eL n<=eL g.kids:=ph j q;Kt 0 r<|Mx o<|Kp 4 (lI l c)<|Mb (bN c l) (fun _=>K1 2 .app (cF (aV d) (sA:e=(f.map aY).length) (by(refine aF (m:=2^31) ?_ ?_ ?_<;>omega):small (e+1) 120=true))<|M1 (.obj 2<|aZ 8 true (d+1)<|(f++[l]).map aY) (congrArg (aZ 8 true<|d+1)<|yL (f:=aY) (g:=Go.Ev.eU) (l:=f) (ws:=[l]) aR)<|Kl 1 59 (dq a)<|K1 0 (.frz 3 [5,7,8,33,34,35,39,40,41,46,47,48]) (kg (tR 8 true (d+1) 3<|aW iB<|f++[l]) rt rt ti)<|Mf<|p (d+1) (e+1) (f++[l])<|by exact hB1 k (by omega)) fun _=>Kl 0 59 (dq a)<|K1 0 (.frz 3 [5,7,8,33,34,35,39,40,41,46,47,48]) (kg (tR 8 true d 3<|aW iB f) rt rt ti)<|Mf<|p d e f<|by exact hB0 k (by omega)) (fun _ _ b c f _ _ _ g i=>let j:=List.map aY f;Kh 0 g<|Mg 0<|M2 (.fsl 2 [5,33,34,35] 61 j) (cF rt rt ti) (cF (aV b) (tA aY f c (oA:(f).length=c))<|aW iB f)<|Ml 61 (fc j false<|aW iB f)<|Kl 1 62 (dq a)<|K1 0 (.frz 1 [5,33,34,35]) (et rt ti)<|Mf<|e f<|by exact fB hj0 i.2.1) fun d _ e f g i j k l _ n o p _ q _=>have r:=(q).trans<|congrArg some<|aR k;have j:=cw (J:=fun a d=>d.2.1=d.2.2.length/\d.2.2++cM c a=cM c b/\d.2.2.length+eL a<2^30) (a:=(e,f,g)) o j;have:nU k+eL l<=eL b:=ph i o;have:k.kids.length<nU k:=bg k;have:nU k=1+eL k.kids:=ju k;Kt 0 p<|Mx r<|Kl 5 47 (ln aY k.kids)<|K1 0 (.frz 3 [5,7,8,33,34,35,39,40,41,46,47,48]) (kg (tR 8 true e 3<|aW iB g) rt rt ti)<|TS aY k.kids e f g [5,7,8,33,34,35,39,40,41,46,47,48] (fun e _ f g i=>([ah 0 0 0 0,ah 1 0 0 0,bQ 2 f 0 g none,aJ<|((s::rs).drop 1).map aK,nV ((s::rs).drop 1).length,nV a,aJ<|b.map aY,nV b.length,nV d,aJ<|k.kids.map aY,nV k.kids.length,nV e],[aZ 1 false 0 [aJ<|b.map aY],aZ 2 false 0 [ak [iV c.kind,ax c.label]],aZ 8 true f<|i.map aY])) (fun a _ d e=>d=e.length/\e++(List.filter (bN c) a++cM c l)=cM c b/\e.length+(eL a+eL l)<2^30) (by(exact gB j)) (fun _ _ a e f _ _ _ g _=>Kh 0 g<|Kl 0 60 (dq d)<|Kf 0<|n a e f gR) fun a _ d e f g i j n o p r _ q _=>have q:=(q).trans<|congrArg some<|aR j;have i:=cw (J:=fun a d=>d.2.1=d.2.2.length/\d.2.2++(List.filter (bN c) a++cM c l)=cM c b/\d.2.2.length+(eL a+eL l)<2^30) (a:=(d,e,f)) p i;have:nU j+eL n<=eL k.kids:=ph g p;Kt 0 r<|Mx q<|Kp 4 (lI j c)<|Mb (bN c j) (fun _=>K1 2 .app (cF (aV d) (sA:e=(f.map aY).length) (by(refine aF (m:=2^31) ?_ ?_ ?_<;>omega):small (e+1) 120=true))<|M1 (.obj 2<|aZ 8 true (d+1)<|(f++[j]).map aY) (congrArg (aZ 8 true<|d+1)<|yL (f:=aY) (g:=Go.Ev.eU) (l:=f) (ws:=[j]) aR)<|Kl 1 59 (dq a)<|K1 0 (.frz 3 [5,7,8,33,34,35,39,40,41,46,47,48]) (kg (tR 8 true (d+1) 3<|aW iB<|f++[j]) rt rt ti)<|Mf<|o (d+1) (e+1) (f++[j])<|by exact hB1 i (by omega)) fun _=>Kl 0 59 (dq a)<|K1 0 (.frz 3 [5,7,8,33,34,35,39,40,41,46,47,48]) (kg (tR 8 true d 3<|aW iB f) rt rt ti)<|Mf<|o d e f<|by exact hB0 i (by omega)
theorem M9(u:TUnit)(p:List PStep)(hn:nU u<=2^11)(hl:p.length<2^40)(hs:∀x,x∈p->x.label.length<=2^39):kP 74 [eU u,.ls (p.map aK)] (.ls ((dF u p).map aY)):=by
  cases p with
  |nil=>exact Vt u rfl
  |cons s rs=>grind[SX]
theorem Dn(u:TUnit)(p:List PStep)(L:List TUnit)(hf:kP 74 [eU u,.ls (p.map aK)] (.ls (L.map aY)))(hL:L.length<=2^22):kP 39 [eU u,.ls (p.map aK)] (.ls ((L.map am).map aX)):=by
  have rr0 b' (h:((L.map am).map aX)=b':=by first|rfl|(rw[<-hj0];rfl)|(rw[<-hj0.2.2.1];simp)):=h;exact b6 Tryz.func39<|Kp 4 hf<|Kl 0 11 (ln aY L)<|K1 0 (.frz 0 [5,10,11,12]) ti<|ka Nat Nat (List PId) aY L [5,10,11,12] (fun a _=>([ab,aJ<|L.map aY,nV L.length,nV a],[])) (fun a _ b c d=>([bQ 0 b 0 c none,aJ<|L.map aY,nV L.length,nV a],[aZ 3 true b<|d.map aX])) (fun a=>a=L) (fun a _ b c=>b=c.length/\(0:Nat)<c.length/\c++List.map am a=List.map am L/\c.length+a.length=L.length) (by rfl) (fun _ _ _ _ _ a hj0=>Kh 0 a<|Kf 1 (Le.lsn<|rr0 []:Le _ (ab))) (fun a _ _ b c d _ e f g _ i _=>have i:=(i).trans<|congrArg some<|aR c;have hj0:=cw (J:=fun a _=>a=L) (a:=()) f b;Kt 0 g<|Mx i<|Kl 9 21 (kf a)<|Mg 0<|M0 (.ren [1,0] [] [5,10,11,12])<|M1 (.frz 1 [5,10,11,12]) (et rt ti)<|Mf<|e 0 1 [PId.mk c.act c.item c.n]<|by(refine⟨rfl,by simp,?_,?_⟩<;>(rw[<-hj0])<;>(first|rfl|grind))) (fun _ _ a b c _ _ _ d hj0=>Kh 0 d<|Mg 1<|M2 (.fsl 0 [] 4<|c.map aX) ti (cF (aV a) (tA aX c b (oA:(c).length=b))<|aW Bc c)<|Ml 4 (fc (c.map aX) false<|aW Bc c)<|Mf<|ct<|rr0<|c.map aX) fun a _ b c d _ e f g _ i j k _ l _=>have l:=(l).trans<|congrArg some<|aR f;have hj0:=cw (J:=fun a b=>b.2.1=b.2.2.length/\(0:Nat)<b.2.2.length/\b.2.2++List.map am a=List.map am L/\b.2.2.length+a.length=L.length) (a:=(b,c,d)) j e;Kt 0 k<|Mx l<|K1 6 .app (cF (aV b) (sA:c=(d.map aX).length) (by(refine aF (m:=2^25) ?_ ?_ ?_<;>omega):small (c+1) 24=true))<|M1 (.obj 0<|aZ 3 true (b+1)<|(d++[PId.mk f.act f.item f.n]).map aX) (congrArg (aZ 3 true<|b+1)<|cT (f:=aX) (l:=d) (ws:=[PId.mk f.act f.item f.n]))<|Kl 1 21 (kf a)<|K1 0 (.frz 1 [5,10,11,12]) (et (tR 3 true (b+1) 1<|aW Bc<|d++[PId.mk f.act f.item f.n]) ti)<|Mf<|i (b+1) (c+1) (d++[PId.mk f.act f.item f.n])<|by(refine⟨by simp_all,by simp,?_,?_⟩<;>first|(rw[<-hj0.2.2.1,eg,qP];rfl)|(rw[<-hj0.2.2.1];simp;done)|grind)
theorem OE(u:TUnit)(p:List PStep)(hf:kP 39 [eU u,.ls (p.map aK)] (.ls (([]:List PId).map aX))):kP 14 [eU u,.ls (p.map aK)] (.tuple [aX cY,iV 7]):=by
  exact b6 Tryz.func14<|Kp 4 hf<|Kf 8<|bo<|bP [ak [iV 0,iV 0,iV 0],iV 7]
theorem OH(u x:TUnit)(p:List PStep)(hf:kP 39 [eU u,.ls (p.map aK)] (.ls ([am x].map aX))):kP 14 [eU u,.ls (p.map aK)] (.tuple [aX (am x),iV 0]):=by
  exact b6 Tryz.func14<|Kp 4 hf<|Kf 13<|bo<|bP [ak [iV (am x).a,iV (am x).i,iV (am x).n],iV 0]
theorem OG(u:TUnit)(p:List PStep)(a b:PId)(r:List PId)(hf:kP 39 [eU u,.ls (p.map aK)] (.ls ((a::b::r).map aX))):kP 14 [eU u,.ls (p.map aK)] (.tuple [aX cY,iV 8]):=by
  have q1:aa (Int.ofNat (r.length+1+1)) 0=false:=rfl
  have q2:aa (Int.ofNat (r.length+1+1)) 1=false:=rfl
  exact b6 Tryz.func14<|Kp 4 hf<|Kl 2 11 (ln aX<|a::b::r)<|Kf 8<|bo<|bP [ak [iV 0,iV 0,iV 0],iV 8]
theorem OD(u:TUnit)(p:List PStep)(hf:kP 74 [eU u,.ls (p.map aK)] (.ls ((dF u p).map aY)))(hn:nU u<=2^11):kP 14 [eU u,.ls (p.map aK)] (.tuple [aX (aH u p).1,iV (aH u p).2]):=by
  have ha:=Dn u p (dF u p) hf (uX p hn)
  cases e:dF u p with
  |nil=>grind[H6,OE]
  | cons x r=>
    cases r with
    |nil=>grind[H5,OH]
    |cons y r=>grind[H4,OG]
noncomputable abbrev zU:AV:=.agg [iV 0,iV 0,iV 0,iV 0,.str [],.nils,.nils,.nils]
noncomputable abbrev ez(xs:List AV):AObj:=.row 8 false 0 xs
theorem V0{L Z:List AV}{n i:Nat}(hn:L.length=n)(hi:i<n):((L++Z).drop (i+1)).take (n-(i+1))=L.drop (i+1):=by
  grind
theorem V1{L Z:List AV}{n i:Nat}(hn:L.length=n)(hi:i<n):cQ (L++Z) (0+i) (L.drop (i+1))=L.eraseIdx i++(L.drop (n-1)++Z):=by
  unfold cQ
  grind
theorem Fv{L Z:List AV}{z:AV}{n i:Nat}(hn:L.length=n)(hi:i<n):cQ (L.eraseIdx i++(L.drop (n-1)++Z)) (n-1) (List.replicate 1 z)=L.eraseIdx i++(z::Z):=by
  unfold cQ
  have h1:(L.eraseIdx i).length=n-1:=by grind
  have h2:(L.drop (n-1)).length=1:=by grind
  grind
theorem ZF{a b:Nat}(h:a≠b):aa (Int.ofNat a) (Int.ofNat b)=false:=by
  grind[l8]
theorem SG(L Z:List AV)(n k i:Nat)(hi:i+1<n)(hn:L.length=n)(hs:n<=2^20)(hf:eX 8 L=true)(hZ:Z.length=k)(hT:az (L++Z)=0):kD 248 [.slice 0 0 0 n (some (n+k)),nV i,nV (i+1)] (aw [ez (L++Z)]) (.slice 0 0 0 (n-1) (some (n+k))) (aw [ez (L.eraseIdx i++(zU::Z))]):=by
  have hq:aa (Int.ofNat i) (Int.ofNat (i+1))=false:=ZF (by omega)
  let q:=AHeap.mk 1000000 (bR (aw [aZ 8 false 0 (L++Z)]) ([0]) Tr.nil);let q1:=aw [aZ 8 false 0 (L.eraseIdx i++(L.drop (n-1)++Z))];let q2:=aw [aZ 8 false 0 (L++Z)];let q3:=(some (bQ 0 0 0 n (some (n+k))));let q4:=bQ 0 0 (i+1) (n-(i+1)) (some (n+k-(i+1)));let q5:=(some (nV (i+1)));let q6:=(some (nV i));let q7:=(some (nV n));let q8:=AHeap.mk 1 (bR q2 ([0,0]) Tr.nil);let q9:=bQ 0 0 0 (n-1) (some (n+k));let q10:=bQ 0 0 (n-1) 1 (some (k+1));let q11:=bQ 0 0 0 i (some (n+k));exact dL Tryz.func248 fun a=>Ko 5 (by exact Ec (xs:=L++Z) (l:=i) (h:=i+1) (m:=n) (by kernel_rfl) (by rfl) (by rfl) (by rfl) (by omega) (by omega) (by omega) (by omega) (by omega) (by omega) (by omega):bA q2 (di (8) q2 q3 q6 q5 q7)=some (ARes.val (AV.slice 0 0 i 1 (some (n-i))) q2))<|Kh 2 hq<|Kv 4 (by exact iL (xs:=L++Z) (l:=0) (h:=i) (by kernel_rfl) (by rfl) (by rfl) (by omega) (by omega) (by omega) (by omega) (by omega) (by omega):bA (q) (di (8) (q) q3 (none) q6 (none))=some (ARes.val q11 q))<|Kv 1 (by exact iL (xs:=L++Z) (l:=i+1) (h:=n) (by kernel_rfl) (by rfl) (by rfl) (by omega) (by omega) (by omega) (by omega) (by omega) (by omega):bA (q) (di (8) (q) q3 q5 (none) (none))=some (ARes.val q4 q))<|Md rt (iO (tR 8 false 0 1 (oA:az (L++Z)=0))<|iO (tR 8 false 0 1 (oA:az (L++Z)=0)) rt) (by exact Nh (new:=L.drop (i+1)) rfl (zA rfl (V0 hn (by omega))) (sk hf) (fun e=>by have:=congrArg List.length e;grind) (by grind) (by grind) (aF (m:=2^20) (by grind) (by omega) (by omega)) (by grind) (V1 hn (by omega)):fG (du (8) (120) (q8) ((some q11)) ((some q4)))=some (ARes.val q9 (AHeap.put q8 0 (AObj.row 8 false 0 (L.eraseIdx i++(L.drop (n-1)++Z))))))<|Ko 4 (by exact iL (xs:=L.eraseIdx i++(L.drop (n-1)++Z)) (l:=n-1) (h:=n) (by kernel_rfl) (by rfl) (by rfl) (by omega) (by omega) (by omega) (by omega) (by omega) (by omega):bA q1 (di (8) q1 ((some q9)) ((some (nV (n-1)))) q7 (none))=some (ARes.val q10 q1))<|Mo (by exact KN rfl (by kernel_rfl) (Fv hn (by omega)):fG (wM (8) (AV.agg [iV 0,iV 0,iV 0,iV 0,AV.str [],AV.nils,AV.nils,AV.nils]) q1 ((some q10)))=some (ARes.val (AV.tuple []) (aw [AObj.row 8 false 0 (L.eraseIdx i++zU::Z)])))<|Kf 1 a
theorem SF(L Z:List AV)(k i:Nat)(hn:L.length=i+1)(hs:i<2^20)(hk:0<k)(hZ:Z.length=k)(hT:az (L++Z)=0):kD 248 [.slice 0 0 0 (i+1) (some (i+1+k)),nV i,nV (i+1)] (aw [ez (L++Z)]) (.slice 0 0 0 i (some (i+1+k))) (aw [ez (L.eraseIdx i++(zU::Z))]):=by
  have hq:aa (Int.ofNat i) (Int.ofNat (i+1))=false:=ZF (by omega)
  have hr:L.eraseIdx i++(L.drop (i+1-1)++Z)=L++Z:=by
    rw[Pm,FT (by omega),eF,<-qP,show i+1-1=i from rfl,F4]
  have hc:cQ (L++Z) i (List.replicate 1 zU)=L.eraseIdx i++(zU::Z):=by
    have h:=Fv (z:=zU) (Z:=Z) hn (show i<i+1 by omega)
    grind
  let q:=aw [aZ 8 false 0 (L++Z)];let q1:=AHeap.mk 1000000 (bR q ([0]) Tr.nil);let q2:=(some (nV (i+1)));let q3:=bQ 0 0 0 i (some (i+1+k));let q4:=(some (bQ 0 0 0 (i+1) (some (i+1+k))));let q5:=(some (nV i));let q6:=AHeap.mk 1 (bR q ([0,0]) Tr.nil);let q7:=bQ 0 0 (i+1) 0 (some k);let q8:=bQ 0 0 i 1 (some (k+1));exact dL Tryz.func248 fun a=>Ko 5 (by exact Ec (xs:=L++Z) (l:=i) (h:=i+1) (m:=i+1) (by kernel_rfl) (by rfl) (by rfl) (by rfl) (by omega) (by omega) (by omega) (by omega) (by omega) (by omega) (by omega):bA q (di (8) q q4 q5 q2 q2)=some (ARes.val (AV.slice 0 0 i 1 (some 1)) q))<|Kh 2 hq<|Kv 4 (by exact iL (xs:=L++Z) (l:=0) (h:=i) (by kernel_rfl) (by rfl) (by rfl) (by omega) (by omega) (by omega) (by omega) (by omega) (by omega):bA (q1) (di (8) (q1) q4 (none) q5 (none))=some (ARes.val q3 q1))<|Kv 1 (by exact iL (xs:=L++Z) (l:=i+1) (h:=i+1) (by kernel_rfl) (by rfl) (by rfl) (by omega) (by omega) (by omega) (by omega) (by omega) (by omega):bA (q1) (di (8) (q1) q4 q2 (none) (none))=some (ARes.val q7 q1))<|Md rt (iO (tR 8 false 0 1 (oA:az (L++Z)=0))<|iO (tR 8 false 0 1 (oA:az (L++Z)=0)) rt) (by exact Tk (zA rfl List.take_zero):fG (du (8) (120) (q6) ((some q3)) ((some q7)))=some (ARes.val q3 q6))<|Ko 4 (by exact iL (xs:=L++Z) (l:=i) (h:=i+1) (by kernel_rfl) (by rfl) (by rfl) (by omega) (by omega) (by omega) (by omega) (by omega) (by omega):bA q (di (8) q ((some q3)) q5 q2 (none))=some (ARes.val q8 q))<|Mo (by exact KN rfl (by kernel_rfl) hc:fG (wM (8) (AV.agg [iV 0,iV 0,iV 0,iV 0,AV.str [],AV.nils,AV.nils,AV.nils]) q ((some q8)))=some (ARes.val (AV.tuple []) (aw [AObj.row 8 false 0 (L.eraseIdx i++zU::Z)])))<|Kf 1 a
theorem SE(L:List AV)(i:Nat)(hn:L.length=i+1)(hs:i<2^20)(hT:az L=0):kD 248 [.slice 0 0 0 (i+1) (some (i+1)),nV i,nV (i+1)] (aw [ez L]) (.slice 0 0 0 i (some (i+1))) (aw [ez (L.eraseIdx i++[zU])]):=by
  have hq:aa (Int.ofNat i) (Int.ofNat (i+1))=false:=ZF (by omega)
  have hr:L.eraseIdx i++(L.drop (i+1-1)++[])=L:=by
    rw[Pm,FT (by omega),eF,eF,show i+1-1=i from rfl,F4]
  have hc:cQ L i (List.replicate 1 zU)=L.eraseIdx i++[zU]:=by
    have h:=Fv (z:=zU) (Z:=[]) hn (show i<i+1 by omega)
    grind
  let q:=aw [aZ 8 false 0 L];let q1:=AHeap.mk 1000000 (bR q ([0]) Tr.nil);let q2:=(some (nV (i+1)));let q3:=bQ 0 0 0 i (some (i+1));let q4:=(some (bQ 0 0 0 (i+1) (some (i+1))));let q5:=(some (nV i));let q6:=bQ 0 0 i 1 (some 1);let q7:=AHeap.mk 1 (bR q ([0,0]) Tr.nil);let q8:=bQ 0 0 0 0 (some 0);exact dL Tryz.func248 fun a=>Ko 5 (by exact Ec (xs:=L) (l:=i) (h:=i+1) (m:=i+1) (by kernel_rfl) (by rfl) (by rfl) (by rfl) (by omega) (by omega) (by omega) (by omega) (by omega) (by omega) (by omega):bA q (di (8) q q4 q5 q2 q2)=some (ARes.val q6 q))<|Kh 2 hq<|Kv 4 (by exact iL (xs:=L) (l:=0) (h:=i) (by kernel_rfl) (by rfl) (by rfl) (by omega) (by omega) (by omega) (by omega) (by omega) (by omega):bA (q1) (di (8) (q1) q4 (none) q5 (none))=some (ARes.val q3 q1))<|Kv 1 (by exact Lp (xs:=L) (l:=i+1) (h:=i+1) (by kernel_rfl) (by rfl) (by rfl) (by rfl) rfl:bA (q1) (di (8) (q1) q4 q2 (none) (none))=some (ARes.val q8 q1))<|Md rt (iO (tR 8 false 0 1 (oA:az (L)=0))<|iO (tR 8 false 0 1 (oA:az (L)=0)) rt) (by exact Tk (zA rfl List.take_zero):fG (du (8) (120) (q7) ((some q3)) ((some q8)))=some (ARes.val q3 q7))<|Ko 4 (by exact iL (xs:=L) (l:=i) (h:=i+1) (by kernel_rfl) (by rfl) (by rfl) (by omega) (by omega) (by omega) (by omega) (by omega) (by omega):bA q (di (8) q ((some q3)) q5 q2 (none))=some (ARes.val q6 q))<|Mo (by exact KN rfl (by kernel_rfl) hc:fG (wM (8) (AV.agg [iV 0,iV 0,iV 0,iV 0,AV.str [],AV.nils,AV.nils,AV.nils]) q ((some q6)))=some (ARes.val (AV.tuple []) (aw [AObj.row 8 false 0 (L.eraseIdx i++[zU])])))<|Kf 1 a
theorem SD(L Z:List AV)(n i:Nat)(hi:i<n)(hn:L.length=n)(hs:n<=2^20)(hf:eX 8 L=true)(hT:az (L++Z)=0):kD 248 [.slice 0 0 0 n (some (n+Z.length)),nV i,nV (i+1)] (aw [ez (L++Z)]) (.slice 0 0 0 (n-1) (some (n+Z.length))) (aw [ez (L.eraseIdx i++(zU::Z))]):=by
  rcases gQ (i+1) n with h|h
  · exact SG L Z n _ i h hn hs hf rfl hT
  · obtain rfl:n=i+1:=by omega
    cases Z with
    |nil=>rw[eF];rw[eF]at hT;exact SE L i hn (by omega) hT
    |cons z r=>exact SF L (z::r) _ i hn (by omega) (Nat.succ_pos _) rfl hT
def g9(i:Nat)(x:AV)(l:List AV):List AV:=l.take i++(x::l.drop i)
theorem AN{i:Nat}{x:AV}{l:List AV}(h:i<=l.length):(g9 i x l).length=l.length+1:=by
  grind[g9]
theorem Hr{x:AV}{l:List AV}{n:Nat}(h:l.length=n):g9 n x l=l++[x]:=by
  grind[g9]
theorem Z7(n:Nat):aa (Int.ofNat n) (Int.ofNat n)=true:=bc _
theorem abo{a b:Nat}(h:a<b):aL (Int.ofNat a) (Int.ofNat b)=true:=nF (by simp_all)
theorem abp{a b:Nat}(h:b<=a):aL (Int.ofNat a) (Int.ofNat b)=false:=jI (by simp_all)
theorem VN{L Z:List AV}{x z:AV}{n:Nat}(h:L.length=n):cQ (L++z::Z) (0+n) [x]=g9 n x L++Z:=by
  unfold cQ
  rw[Hr h,gn,<-h,List.take_left,show(L++z::Z).drop (L.length+[x].length)=Z by rw[<-Cn,List.drop_left];rfl]
theorem U2{L Z:List AV}{z:AV}{n i:Nat}(h:L.length=n)(hi:i<n):cQ (L++z::Z) (i+1) (L.drop i)=L.take (i+1)++(L.drop i++Z):=by
  unfold cQ
  rw[List.take_append_of_le_length (by omega),qP,uy,show i+1+(L.length-i)=L.length+1 by omega,<-Cn,List.drop_left];rfl
theorem RV{L Z:List AV}{x:AV}{n i:Nat}(h:L.length=n)(hi:i<n):cQ (L.take (i+1)++(L.drop i++Z)) i [x]=g9 i x L++Z:=by
  unfold cQ g9
  grind
theorem UM{L:List AV}{z x:AV}{n i:Nat}(h:L.length=n)(hi:i<n):cQ (L.take i++List.replicate (n+1-i) z) i [x]=L.take i++(x::List.replicate (n-i) z):=by
  unfold cQ
  have h1:(L.take i).length=i:=by grind
  have e:n+1-i=(n-i)+1:=by omega
  rw[List.take_append_of_le_length (by omega),Cm (by omega),<-Cn]
  simp_all
theorem RW{L:List AV}{z x:AV}{n i:Nat}(h:L.length=n)(hi:i<n):cQ (L.take i++(x::List.replicate (n-i) z)) (i+1) (L.drop i)=g9 i x L:=by
  unfold cQ g9
  have h1:(L.take i).length=i:=by grind
  have h2:(L.take i++(x::List.replicate (n-i) z)).length=n+1:=by grind
  have e:(L.take i++(x::List.replicate (n-i) z)).drop (i+1+(L.drop i).length)=[]:=FT (by grind)
  grind
theorem Rs(L Z:List AV)(x z:AV)(t:Bool)(n k:Nat)(hn:L.length=n)(hs:n<2^20)(hk:Z.length=k)(hx:eX 8 [x]=true):kD 176 [.slice 0 0 0 n (some (n+(k+1))),nV n,.ps [x] t] (aw [ez (L++z::Z)]) (.slice 0 0 0 (n+1) (some (n+(k+1)))) (aw [ez (g9 n x L++Z)]):=by
  have hq:=Z7 n
  let q:=aw [aZ 8 false 0 (L++z::Z)];exact dL Tryz.func176 fun a=>Ko 2 (by exact iL (xs:=L++z::Z) (l:=n) (h:=n) (by kernel_rfl) (by rfl) (by rfl) (by omega) (by omega) (by omega) (by omega) (by omega) (by omega):bA q (di (8) q ((some (AV.slice 0 0 0 n (some (n+(k+1)))))) ((some (nV n))) (none) (none))=some (ARes.val (AV.slice 0 0 n 0 (some (k+1))) q))<|Kt 11 hq<|Ko 1 (by exact Nh (new:=[x]) rfl (by rfl) hx (mo _ _) (by simp_all) (by simp_all) (aF (m:=2^20) (by grind) (by omega) (by omega)) rfl (VN hn):fG (du (8) (120) (aw [AObj.row 8 false 0 (L++z::Z)]) ((some (AV.slice 0 0 0 n (some (n+(k+1)))))) ((some (AV.ps [x] t))))=some (ARes.val (AV.slice 0 0 0 (n+1) (some (n+(k+1)))) (aw [AObj.row 8 false 0 (g9 n x L++Z)])))<|Kf 0 a
theorem Rr(L:List AV)(x:AV)(t:Bool)(n:Nat)(hn:L.length=n)(hs:n<2^20)(hx:eX 8 [x]=true)(hT:az L=0)(hI:az (g9 n x L)=0):kD 176 [.slice 0 0 0 n (some n),nV n,.ps [x] t] (aw [ez L]) (.ls (g9 n x L)) (aw [ez L]):=by
  have hq:=Z7 n
  have hIl:(g9 n x L).length=n+1:=(AN (by omega)).trans (by omega)
  let q:=aw [aZ 8 false 0 L];exact dL Tryz.func176 fun a=>Ko 2 (by exact Lp (xs:=L) (l:=n) (h:=n) (by kernel_rfl) (by rfl) (by rfl) (by rfl) rfl:bA q (di (8) q ((some (AV.slice 0 0 0 n (some n)))) ((some (nV n))) (none) (none))=some (ARes.val (AV.slice 0 0 0 0 (some 0)) q))<|Kt 11 hq<|Ko 1 (by exact Wx (new:=[x]) rfl (by rfl) hx (mo _ _) (by simp_all) (aF (m:=2^20) (by grind) (by omega) (by omega)) (by grind[Hr]) ((AN (by omega)).trans (by omega)):fG (du (8) (120) (aw [AObj.row 8 false 0 L]) ((some (AV.slice 0 0 0 n (some n)))) ((some (AV.ps [x] t))))=some (ARes.val (AV.slice 1 0 0 (n+1) none) (aw [AObj.row 8 false 0 L,AObj.row 8 true 0 (g9 n x L)])))<|Mg 0<|M2 (.fsl 1 [] 6<|g9 n x L) (et (tR 8 false 0 1 (oA:az (L)=0)) ti) (cF (aV 0) (Wn (oA:(g9 n x L).length=n+1)) (oA:az (g9 n x L)=0))<|Ml 6 (fc (g9 n x L) false (oA:az (g9 n x L)=0))<|Mf a
theorem Rp(L Z:List AV)(x z:AV)(t:Bool)(n k i:Nat)(hi:i<n)(hn:L.length=n)(hs:n<2^20)(hk:Z.length=k)(hx:eX 8 [x]=true)(hf:eX 8 L=true)(hT:az (L++z::Z)=0)(hov:kD 245 [.ps [x] t,.slice 0 0 (i+1) (n-i) (some (n+(k+1)-(i+1)))] (aw [ez (L++z::Z)]) (.bool false) (aw [ez (L++z::Z)])):kD 176 [.slice 0 0 0 n (some (n+(k+1))),nV i,.ps [x] t] (aw [ez (L++z::Z)]) (.slice 0 0 0 (n+1) (some (n+(k+1)))) (aw [ez (g9 i x L++Z)]):=by
  have hq:aa (Int.ofNat i) (Int.ofNat n)=false:=ZF (by omega)
  have hl:aL (Int.ofNat (n+(k+1))) (Int.ofNat (n+1))=false:=abp (by omega)
  let q:=aw [aZ 8 false 0 (L++z::Z)];let q1:=aw [aZ 8 false 0 (L.take (i+1)++(L.drop i++Z))];let q2:=AHeap.mk 1000000 (bR q ([0]) Tr.nil);let q3:=bQ 0 0 0 (n+1) (some (n+(k+1)));let q4:=bQ 0 0 i (n+1-i) (some (n+(k+1)-i));let q5:=(some (nV i));let q6:=bQ 0 0 (i+1) (n-i) (some (n+(k+1)-(i+1)));let q7:=(some (nV (i+1)));let q8:=(some (bQ 0 0 0 n (some (n+(k+1)))));exact dL Tryz.func176 fun a=>Ko 2 (by exact iL (xs:=L++z::Z) (l:=i) (h:=n) (by kernel_rfl) (by rfl) (by rfl) (by omega) (by omega) (by omega) (by omega) (by omega) (by omega):bA q (di (8) q q8 q5 (none) (none))=some (ARes.val (AV.slice 0 0 i (n-i) (some (n+(k+1)-i))) q))<|Kh 11 hq<|Kl 2 28 (kf n)<|Kh 2 hl<|Kl 3 59 (kf n)<|Mo (by exact iL (xs:=L++z::Z) (l:=0) (h:=n+1) (by kernel_rfl) (by rfl) (by rfl) (by omega) (by omega) (by omega) (by omega) (by omega) (by omega):bA q (di (8) q q8 (none) ((some (nV (n+1)))) (none))=some (ARes.val q3 q))<|Kl 5 65 (kf i)<|Mo (by exact iL (xs:=L++z::Z) (l:=i+1) (h:=n+1) (by kernel_rfl) (by rfl) (by rfl) (by omega) (by omega) (by omega) (by omega) (by omega) (by omega):bA q (di (8) q ((some q3)) q7 (none) (none))=some (ARes.val q6 q))<|Me hov<|Mg 4<|Ma (kf i)<|Mv (by exact iL (xs:=L++z::Z) (l:=i+1) (h:=n+1) (by kernel_rfl) (by rfl) (by rfl) (by omega) (by omega) (by omega) (by omega) (by omega) (by omega):bA (q2) (di (8) (q2) ((some q3)) q7 (none) (none))=some (ARes.val q6 q2))<|Kv 1 (by exact iL (xs:=L++z::Z) (l:=i) (h:=n+1) (by kernel_rfl) (by rfl) (by rfl) (by omega) (by omega) (by omega) (by omega) (by omega) (by omega):bA (q2) (di (8) (q2) ((some q3)) q5 (none) (none))=some (ARes.val q4 q2))<|Md rt (iO (tR 8 false 0 1 (oA:az (L++z::Z)=0))<|iO (tR 8 false 0 1 (oA:az (L++z::Z)=0)) rt) (by exact Nw (zs:=((L++z::Z).drop i).take (n+1-i)) rfl (zA rfl rfl) (by grind[sk]) (by grind) (by grind[U2]):fG (vB (8) ((AHeap.mk 1 (bR (aw [AObj.row 8 false 0 (L++z::Z)]) ([0,0]) Tr.nil))) ((some (AV.slice 0 0 (i+1) (n-i) (some (n+(k+1)-(i+1)))))) ((some (AV.slice 0 0 i (n+1-i) (some (n+(k+1)-i))))))=some (ARes.val (nV (n-i)) (AHeap.put (AHeap.mk 1 (bR (aw [AObj.row 8 false 0 (L++z::Z)]) ([0,0]) Tr.nil)) 0 (AObj.row 8 false 0 (L.take (i+1)++(L.drop i++Z))))))<|Ko 1 (by exact iL (xs:=L.take (i+1)++(L.drop i++Z)) (l:=i) (h:=n+1) (by kernel_rfl) (by rfl) (by rfl) (by omega) (by omega) (by omega) (by omega) (by omega) (by omega):bA q1 (di (8) q1 ((some q3)) q5 (none) (none))=some (ARes.val q4 q1))<|Ko 0 (by exact Nw (zs:=[x]) rfl (by rfl) (sj hx) (by grind) (by grind[List.take_of_length_le,RV]):fG (vB (8) q1 ((some q4)) ((some (AV.ps [x] t))))=some (ARes.val (iV 1) (aw [AObj.row 8 false 0 (g9 i x L++Z)])))<|Kf 1 a
theorem Ro(L:List AV)(x:AV)(t:Bool)(n i:Nat)(hi:i<n)(hn:L.length=n)(hs:n<2^20)(hx:eX 8 [x]=true)(hf:eX 8 L=true)(hT:az L=0)(hT2:az (L.take i++(x::List.replicate (n-i) zU))=0)(hI:az (g9 i x L)=0):kD 176 [.slice 0 0 0 n (some n),nV i,.ps [x] t] (aw [ez L]) (.ls (g9 i x L)) (aw [ez L]):=by
  have hq:aa (Int.ofNat i) (Int.ofNat n)=false:=ZF (by omega)
  have hl:aL (Int.ofNat n) (Int.ofNat (n+1))=true:=abo (by omega)
  have hIl:(g9 i x L).length=n+1:=(AN (by omega)).trans (by omega)
  let q:=aw [aZ 8 false 0 L,aZ 8 true 0 (L.take i++x::List.replicate (n-i) zU)];let q1:=aw [aZ 8 false 0 L,aZ 8 true 0 (L.take i++List.replicate (n+1-i) zU)];let q2:=aw [aZ 8 false 0 L];let q3:=(some (nV i));let q4:=AHeap.mk 1000000 (bR q ([0]) Tr.nil);let q5:=bQ 0 0 i (n-i) (some (n-i));let q6:=(some (bQ 0 0 0 n (some n)));let q7:=AHeap.mk 2 (bR q ([1,0]) Tr.nil);let q8:=bQ 1 0 i (n+1-i) none;let q9:=bQ 1 0 0 (n+1) none;let q10:=bQ 0 0 0 i (some n);exact dL Tryz.func176 fun a=>Ko 2 (by exact iL (xs:=L) (l:=i) (h:=n) (by kernel_rfl) (by rfl) (by rfl) (by omega) (by omega) (by omega) (by omega) (by omega) (by omega):bA q2 (di (8) q2 q6 q3 (none) (none))=some (ARes.val q5 q2))<|Kh 11 hq<|Kl 2 28 (kf n)<|Kt 2 hl<|Ko 1 (by exact iL (xs:=L) (l:=0) (h:=i) (by kernel_rfl) (by rfl) (by rfl) (by omega) (by omega) (by omega) (by omega) (by omega) (by omega):bA q2 (di (8) q2 q6 (none) q3 (none))=some (ARes.val q10 q2))<|Kl 2 37 (kf n)<|Ko 0 (by(show bA _ (some (AV.int .i64 (IntKind.i64.wrap (Int.ofNat (n+1)-Int.ofNat i))))=_;rw[show(Int.ofNat (n+1)-Int.ofNat i)=Int.ofNat (n+1-i) by grind,ug (by simp_all) (by grind)];rfl):bA (aw [AObj.row 8 false 0 L]) (T6 (qD BinOp.sub (Tryz.prog.underlying 3) (c8 Tryz.prog 3) (dZ Tryz.prog 3) (ej Tryz.prog 10 3 0)) ((some (nV (n+1)))) ((some (nV i))))=some (ARes.val (nV (n+1-i)) (aw [AObj.row 8 false 0 L])))<|Mo (by exact U0 rfl (by omega) (by omega) (by kernel_rfl) (aF (m:=2^21) (by omega) (by omega) (by omega)) (aF (m:=2^21) (by omega) (by omega) (by omega)) (by simp_all) (by grind):fG (Dj (8) (120) (AV.agg [iV 0,iV 0,iV 0,iV 0,AV.str [],AV.nils,AV.nils,AV.nils]) q2 ((some q10)) ((some (nV (n+1-i)))))=some (ARes.val q9 q1))<|Ko 2 (by exact Lo (xs:=L.take i++List.replicate (n+1-i) zU) (l:=i) (h:=n+1) (by kernel_rfl) (by rfl) (by rfl) (by omega) (by grind) (by omega) (by omega):bA q1 (di (8) q1 ((some q9)) q3 (none) (none))=some (ARes.val q8 q1))<|Ko 0 (by exact Nw (zs:=[x]) rfl (by rfl) (sj hx) (by grind) (by grind[List.take_of_length_le,UM]):fG (vB (8) q1 ((some q8)) ((some (AV.ps [x] t))))=some (ARes.val (iV 1) q))<|Mg 2<|Ma (kf i)<|Mv (by exact Lo (xs:=L.take i++(x::List.replicate (n-i) zU)) (l:=i+1) (h:=n+1) (by kernel_rfl) (by rfl) (by rfl) (by omega) (by grind) (by omega) (by omega):bA ((AHeap.mk 1000000 (bR (aw [AObj.row 8 false 0 L,AObj.row 8 true 0 (L.take i++x::List.replicate (n-i) zU)]) ([1]) Tr.nil))) (di (8) ((AHeap.mk 1000000 (bR (aw [AObj.row 8 false 0 L,AObj.row 8 true 0 (L.take i++x::List.replicate (n-i) zU)]) ([1]) Tr.nil))) ((some (AV.slice 1 0 0 (n+1) none))) ((some (nV (i+1)))) (none) (none))=some (ARes.val (AV.slice 1 0 (i+1) (n-i) none) (AHeap.mk 1000000 (bR (aw [AObj.row 8 false 0 L,AObj.row 8 true 0 (L.take i++x::List.replicate (n-i) zU)]) ([1]) Tr.nil))))<|Kv 1 (by exact iL (xs:=L) (l:=i) (h:=n) (by kernel_rfl) (by rfl) (by rfl) (by omega) (by omega) (by omega) (by omega) (by omega) (by omega):bA (q4) (di (8) (q4) q6 q3 (none) (none))=some (ARes.val q5 q4))<|Md rt (iO (tR 8 true 0 2 (oA:az (L.take i++x::List.replicate (n-i) zU)=0))<|iO (tR 8 false 0 2 (oA:az (L)=0)) rt) (by exact Nw (zs:=L.drop i) rfl (zA rfl (Cm (by simp_all))) (sj (sk hf)) (by simp_all) (by grind[List.length_drop,RW]):fG (vB (8) (q7) ((some (AV.slice 1 0 (i+1) (n-i) none))) ((some q5)))=some (ARes.val (nV (n-i)) (AHeap.put q7 1 (AObj.row 8 true 0 (g9 i x L)))))<|Mg 1<|M2 (.fsl 1 [] 6<|g9 i x L) (et (tR 8 false 0 1 (oA:az (L)=0)) ti) (cF (aV 0) (Wn (oA:(g9 i x L).length=n+1)) (oA:az (g9 i x L)=0))<|Ml 6 (fc (g9 i x L) false (oA:az (g9 i x L)=0))<|Mf a
theorem Hn(x:TUnit)(t:Bool):kP 176 [.nils,iV 0,.ps [eU x] t] (.ls [eU x]):=by
  have hx:eX 8 [eU x]=true:=by kernel_rfl
  have hIl:[eU x].length=1:=rfl
  have hI:az [eU x]=0:=by kernel_rfl
  let q:=[ak (uLx x)];exact b6 Tryz.func176<|Ko 18 (by(simp only[du,gT,lU,lW,ii,hx];rfl):fG (du (8) (120) (aw []) ((some (AV.nils))) ((some (AV.ps [AV.agg (uLx x)] t))))=some (ARes.val (AV.slice 0 0 0 1 none) (aw [AObj.row 8 true 0 [eU x]])))<|K1 0 (.frz 0 [6]) ti<|Mf (fc q _<|by rfl:Le _ (AV.ps q false))
theorem Hm(x:TUnit)(t:Bool):kP 176 [.ps [] true,iV 0,.ps [eU x] t] (.ls [eU x]):=by
  have hx:eX 8 [eU x]=true:=by kernel_rfl
  have hIl:[eU x].length=1:=rfl
  have hI:az [eU x]=0:=by kernel_rfl
  let q:=[ak (uLx x)];exact b6 Tryz.func176<|Ko 18 (by(simp only[du,gT,lU,lW,ii,hx];rfl):fG (du (8) (120) (aw []) ((some (AV.ps [] true))) ((some (AV.ps [AV.agg (uLx x)] t))))=some (ARes.val (AV.slice 0 0 0 1 none) (aw [AObj.row 8 true 0 [eU x]])))<|K1 0 (.frz 0 [6]) ti<|Mf (fc q _<|by rfl:Le _ (AV.ps q false))
noncomputable def Lf:TypeInfo:=(Tryz.prog.info? 30).getD default
theorem PL:Tryz.prog.info? 30=some Lf:=by kernel_rfl
theorem ZQ:Le (aY bC) zU:=bV (.cons (Le.refl _) (.cons (Le.refl _) (.cons (Le.refl _) (.cons (Le.refl _) (.cons (Le.refl _) (.cons Le.nils (.cons Le.nils (.cons Le.nils .nil)))))))) rfl
theorem Jb:Lf.size=8:=by kernel_rfl
theorem Gj:Lf.bytes=120:=by kernel_rfl
theorem Z5(l:List TUnit):eX 8 (l.map aY)=true:=gY (fun u=>by cases u;rfl) l
theorem Fy(xs:List TUnit)(hne:xs≠[])(hl:xs.length<=2^20)(a b c:AObj):kC 244 [.ls (xs.map aY)] (aw [a,b,c])
    (fun v h=>∃k:Nat,True/\v=.slice 3 0 0 xs.length (some (xs.length+k))/\h=aw [a,b,c,ez ((xs++List.replicate k bC).map aY)]):=by
  simp only[sH,List.map_replicate]
  have hn:xs.map aY≠[]:=fun h=>hne (zk.1 h)
  have hf:=Z5 xs
  have hsm:small (xs.map aY).length 120=true:=by grind[aF]
  have hlen:xs.length=(xs.map aY).length:=(cJ ..).symm
  rw[hlen]
  generalize xs.map aY=L at hn hf hsm
  refine aN.enter 2 (fn:=Tryz.f244) Tryz.func244 (by kernel_rfl) rfl ⟨by kernel_rfl,by kernel_rfl⟩ ?_
  refine ar.seq (ar.mono (E3 qf jX (ev 40) (s':=⟨eE 8 [(0,.ls L),(2,.nils)],aw [a,b,c]⟩) (.go 0 .fin) (by kernel_rfl)) ?_)
  rintro _ _ ⟨rfl,rfl⟩
  refine ar.seq (ar.seq (ar.mono (yE jX (ev 40) (Ψ:=fun s=>s=⟨eE 8 [(0,.ls L),(2,.nils),(3,.ps L false),(4,.bool false)],aw [a,b,c]⟩) (.go 0 (.nz 3 .abs (.go 0 .fin)))
    (W:=(L=[]->False)/\(⟨eE 8 [(0,.ls L),(2,.nils),(3,.ps L false),(4,.bool false)],aw [a,b,c]⟩:St)=⟨eE 8 [(0,.ls L),(2,.nils),(3,.ps L false),(4,.bool false)],aw [a,b,c]⟩) ⟨hn,rfl⟩ (by kernel_rfl)) ?_))
  rintro _ _ ⟨rfl,rfl⟩
  refine ar.cond (t:=false) (by kernel_rfl) (fun h=>by grind) fun _=>ar.skip ?_
  refine ar.seq (ar.region ?_)
  show cH _ _ _ _ [_,_,_,_] _ _
  refine cH.one (s':=⟨eE 8 [(0,.ls L),(2,.nils),(3,.ps L false),(4,.bool false),(5,.ps [] true)],aw [a,b,c]⟩) (ev 40) (by kernel_rfl) ?_
  refine cH.one (s':=⟨eE 8 [(0,.ls L),(2,.nils),(3,.ps L false),(4,.bool false),(5,.ps [] true),(6,.ls L)],aw [a,b,c]⟩) (ev 40) (by kernel_rfl) ?_
  refine so (I:=fun _=>True) (r:=fun k:Nat=>.slice 3 0 0 L.length (some (L.length+k))) (H:=fun k=>aw [a,b,c,.row 8 false 0 (L++List.replicate k (aY bC))]) (by kernel_rfl)
    (fun pl M a w g1 g2 g3=>vM (z:=aY bC) (z0:=zU) (xs:=L) (t:=28) (tx:=28) (e:=30) (i:=Lf) Jb Gj (by kernel_rfl) ⟨30,by kernel_rfl⟩ PL (by kernel_rfl) ZQ (by kernel_rfl) (by kernel_rfl) hn hf (by kernel_rfl) hsm (by omega) pl M a w g1 g2 g3) fun k _=>?_
  refine⟨eE 8 [(0,.ls L),(2,.nils),(3,.ps L false),(4,.bool false),(5,.ps [] true),(6,.ls L),(7,.slice 3 0 0 L.length (some (L.length+k)))],by kernel_rfl,?_⟩
  refine cH.one (s':=⟨eE 8 [(0,.ls L),(2,.slice 3 0 0 L.length (some (L.length+k))),(3,.ps L false),(4,.bool false),(5,.ps [] true),(6,.ls L),(7,.slice 3 0 0 L.length (some (L.length+k)))],aw [a,b,c,.row 8 false 0 (L++List.replicate k (aY bC))]⟩) (ev 40) (by kernel_rfl) (cH.nil (ar.ret ⟨fun id h=>(by grind),.slice 3 0 0 L.length (some (L.length+k)),by kernel_rfl,k,trivial,by kernel_rfl,by kernel_rfl⟩))
noncomputable abbrev eY(u:TUnit)(K:AV):AObj:=.row 8 false 0 [.agg [iV u.act,iV u.item,iV u.n,iV u.kind,.str u.label,.ls (u.head.map aQ),.ls (u.words.map aQ),K]]
theorem ZW(u:TUnit)(n c i:Nat)(R R':List AV)(hT:az R=0)(hT2:az R'=0)(hi:i<n)(hs:n<=2^20)(hD:kD 248 [.slice 1 0 0 n (some c),nV i,nV (i+1)] (aw [eY u (.slice 1 0 0 n (some c)),ez R]) (.slice 1 0 0 (n-1) (some c)) (aw [eY u (.slice 1 0 0 n (some c)),ez R'])):
    kD 247 [.ptr 0 0 0 0,.pptr [nV i] 0 0] (aw [eY u (.slice 1 0 0 n (some c)),ez R]) (.tuple []) (aw [eY u (.slice 1 0 0 (n-1) (some c)),ez R']):=by
  exact dL Tryz.func247 fun a=>Mg 6<|Ma (kf i)<|M3 (.efx false (bQ 1 0 0 (n-1)<|some c)<|aw [aZ 8 false 0 [ak [iV u.act,iV u.item,iV u.n,iV u.kind,ax u.label,aJ<|u.head.map aQ,aJ<|u.words.map aQ,bQ 1 0 0 n<|some c]],aZ 8 false 0 R']) (cF (tR 8 false 0 2 (oA:az (R)=0)) rt ti) ti hD<|Kf 2 a
theorem X9(u x:TUnit)(n c i:Nat)(R R':List AV)(hT:az R=0)(hT2:az R'=0)(hD:kD 176 [.slice 1 0 0 n (some c),nV i,.ps [eU x] true] (aw [eY u (.slice 1 0 0 n (some c)),ez R]) (.slice 1 0 0 (n+1) (some c)) (aw [eY u (.slice 1 0 0 n (some c)),ez R'])):
    kD 175 [.ptr 0 0 0 0,.pptr [nV i] 0 0,.pptr [eU x] 0 0] (aw [eY u (.slice 1 0 0 n (some c)),ez R]) (.tuple []) (aw [eY u (.slice 1 0 0 (n+1) (some c)),ez R']):=by
  exact dL Tryz.func175 fun a=>Mg 7<|M3 (.efx false (bQ 1 0 0 (n+1)<|some c)<|aw [aZ 8 false 0 [ak [iV u.act,iV u.item,iV u.n,iV u.kind,ax u.label,aJ<|u.head.map aQ,aJ<|u.words.map aQ,bQ 1 0 0 n<|some c]],aZ 8 false 0 R']) (cF (tR 8 false 0 2 (oA:az (R)=0)) rt ti) ti hD<|Kf 2 a
theorem X8(u x:TUnit)(n c i:Nat)(R Y:List AV)(hT:az R=0)(hD:kD 176 [.slice 1 0 0 n (some c),nV i,.ps [eU x] true] (aw [eY u (.slice 1 0 0 n (some c)),ez R]) (.ls Y) (aw [eY u (.slice 1 0 0 n (some c)),ez R])):
    kD 175 [.ptr 0 0 0 0,.pptr [nV i] 0 0,.pptr [eU x] 0 0] (aw [eY u (.slice 1 0 0 n (some c)),ez R]) (.tuple []) (aw [eY u (.ls Y),ez R]):=by
  let q:=[ak [iV u.act,iV u.item,iV u.n,iV u.kind,ax u.label,aJ (u.head.map aQ),aJ (u.words.map aQ),bQ 1 0 0 n (some c)]];exact dL Tryz.func175 fun a=>Mg 7<|M3 (.efx true (aJ Y)<|aw [aZ 8 false 0 q,aZ 8 false 0 R]) (cF (tR 8 false 0 2 (oA:az (R)=0)) rt ti) (cF (aV<|some<|aZ 8 false 0 R) (aV<|some<|aZ 8 false 0 q) ti) hD<|Kf 2 a
theorem X7(u x:TUnit)(Y:List AV)(hD:kP 176 [.nils,iV 0,.ps [eU x] true] (.ls Y)):
    kD 175 [.ptr 0 0 0 0,.pptr [iV 0] 0 0,.pptr [eU x] 0 0] (aw [eY u .nils]) (.tuple []) (aw [eY u (.ls Y)]):=by
  exact dL Tryz.func175 fun a=>Kp 7 hD<|Kf 2 a
theorem X6(u x:TUnit)(Y:List AV)(hD:kP 176 [(.ps [] true),iV 0,.ps [eU x] true] (.ls Y)):
    kD 175 [.ptr 0 0 0 0,.pptr [iV 0] 0 0,.pptr [eU x] 0 0] (aw [eY u (.ps [] true)]) (.tuple []) (aw [eY u (.ls Y)]):=by
  exact dL Tryz.func175 fun a=>Kp 7 hD<|Kf 2 a
theorem XL(u x:TUnit)(n c i:Nat)(R R':List AV)(hT:az R=0)(hT2:az R'=0)(hD:kD 176 [.slice 1 0 0 n (some c),nV i,.ps [eU x] true] (aw [eY u (.slice 1 0 0 n (some c)),ez R]) (.slice 1 0 0 (n+1) (some c)) (aw [eY u (.slice 1 0 0 n (some c)),ez R'])):
    kD 186 [.ptr 0 0 0 0,.pptr [nV i] 0 0,.pptr [eU x] 0 0] (aw [eY u (.slice 1 0 0 n (some c)),ez R]) (.tuple []) (aw [eY u (.slice 1 0 0 (n+1) (some c)),ez R']):=by
  exact dL Tryz.func186 fun a=>Mg 7<|M3 (.efx false (bQ 1 0 0 (n+1)<|some c)<|aw [aZ 8 false 0 [ak [iV u.act,iV u.item,iV u.n,iV u.kind,ax u.label,aJ<|u.head.map aQ,aJ<|u.words.map aQ,bQ 1 0 0 n<|some c]],aZ 8 false 0 R']) (cF (tR 8 false 0 2 (oA:az (R)=0)) rt ti) ti hD<|Kf 2 a
theorem XI(u x:TUnit)(n c i:Nat)(R Y:List AV)(hT:az R=0)(hD:kD 176 [.slice 1 0 0 n (some c),nV i,.ps [eU x] true] (aw [eY u (.slice 1 0 0 n (some c)),ez R]) (.ls Y) (aw [eY u (.slice 1 0 0 n (some c)),ez R])):
    kD 186 [.ptr 0 0 0 0,.pptr [nV i] 0 0,.pptr [eU x] 0 0] (aw [eY u (.slice 1 0 0 n (some c)),ez R]) (.tuple []) (aw [eY u (.ls Y),ez R]):=by
  let q:=[ak [iV u.act,iV u.item,iV u.n,iV u.kind,ax u.label,aJ (u.head.map aQ),aJ (u.words.map aQ),bQ 1 0 0 n (some c)]];exact dL Tryz.func186 fun a=>Mg 7<|M3 (.efx true (aJ Y)<|aw [aZ 8 false 0 q,aZ 8 false 0 R]) (cF (tR 8 false 0 2 (oA:az (R)=0)) rt ti) (cF (aV<|some<|aZ 8 false 0 R) (aV<|some<|aZ 8 false 0 q) ti) hD<|Kf 2 a
theorem XH(u x:TUnit)(Y:List AV)(hD:kP 176 [.nils,iV 0,.ps [eU x] true] (.ls Y)):
    kD 186 [.ptr 0 0 0 0,.pptr [iV 0] 0 0,.pptr [eU x] 0 0] (aw [eY u .nils]) (.tuple []) (aw [eY u (.ls Y)]):=by
  exact dL Tryz.func186 fun a=>Kp 7 hD<|Kf 2 a
theorem XG(u x:TUnit)(Y:List AV)(hD:kP 176 [(.ps [] true),iV 0,.ps [eU x] true] (.ls Y)):
    kD 186 [.ptr 0 0 0 0,.pptr [iV 0] 0 0,.pptr [eU x] 0 0] (aw [eY u (.ps [] true)]) (.tuple []) (aw [eY u (.ls Y)]):=by
  exact dL Tryz.func186 fun a=>Kp 7 hD<|Kf 2 a
theorem ZZ(u:TUnit)(l:List PWord):kD 179 [.ptr 0 0 0 0,.pptr [.ls (l.map aQ)] 0 0] (aw [eY u (.ls (u.kids.map aY))]) (.tuple []) (aw [eY (jN l u) (.ls (u.kids.map aY))]):=by
  exact dL Tryz.func179 fun a=>Kf 4 a
theorem Zl(u:TUnit)(l:List PWord):kD 181 [.ptr 0 0 0 0,.pptr [.ls (l.map aQ)] 0 0] (aw [eY u (.ls (u.kids.map aY))]) (.tuple []) (aw [eY (jN l u) (.ls (u.kids.map aY))]):=by
  exact dL Tryz.func181 fun a=>Kf 4 a
theorem Z1(u:TUnit)(l:List PWord):kD 183 [.ptr 0 0 0 0,.pptr [.ls (l.map aQ)] 0 0] (aw [eY u (.ls (u.kids.map aY))]) (.tuple []) (aw [eY (rl l u) (.ls (u.kids.map aY))]):=by
  exact dL Tryz.func183 fun a=>Kf 4 a
theorem Zh(u:TUnit)(d:PDeed):kD 185 [.ptr 0 0 0 0,.pptr [aq d] 0 0] (aw [eY u (.ls (u.kids.map aY))]) (.tuple []) (aw [eY (ji d.it.label u) (.ls (u.kids.map aY))]):=by
  exact dL Tryz.func185 fun a=>Kf 6 a
noncomputable abbrev wy(p:PId):AObj:=.row 3 false 0 [aX p]
noncomputable abbrev zO:AObj:=.row 8 false 0 [zU]
theorem IB:kP 244 [.nils] .nils:=by
  exact wk Tryz.func244 (.go 4 .fin)<|bo ab
theorem IA:kP 244 [.ps [] false] (.ps [] true):=by
  exact wk Tryz.func244 (.go 7 .fin)<|bo<|lY [] true
theorem SR(w:TUnit)(r:List TUnit)(hl:r.length<2^20):kP 244 [.ls ((w::r).map aY)] (.ls ((w::r).map aY)):=by
  let q:=List.map aY (w::r);exact b6 Tryz.func244<|Mg 1<|Mz 3 (fun(a:((w::r).map aY:List AV)=[])=>Mw .abs<|mo _ _ a)<|Mg 3<|M2 .apl (et (sA:List.map aY (w::r)≠[])<|gY (sz:=8) (f:=aY) (fun _=>by(rw[aR];rfl))<|w::r) (by(refine aF (m:=2^21) ?_ ?_ ?_<;>first|omega|grind):small ((w::r).map aY).length 120=true)<|Mg 0<|M2 (.fsl 0 [] 2 q) ti (cF (aV 0) (tA aY (w::r) q.length (sA:(w::r).length=((w::r).map aY).length))<|aW iB<|w::r)<|Ml 2 (fc q false<|aW iB<|w::r)<|Mf<|bo<|aJ q
theorem DH(l:List TUnit)(hl:l.length<=2^20):kP 244 [.ls (l.map aY)] (.ls (l.map aY)):=by
  cases l with
  |nil=>exact bY.ls0 (IB.less Le.nils) (IA.lessB (u:=.ls []) (by kernel_rfl))
  |cons w r=>grind[SR]
theorem yP(g:Nat)(bs:List AV)(p:PId)(u u2:TUnit)(hA:az [eU u,aX p,.func (.func g) [] bs]=0)(hp:(aa u.act p.a&&(aa u.item p.i&&aa u.n p.n))=true)(hl:u.kids.length<=2^20)(hd:kD g (.ptr 0 0 0 0::bs) (aw [eY u (.ls (u.kids.map aY)),wy p,zO]) (.tuple []) (aw [eY u2 (.ls (u2.kids.map aY)),wy p,zO])):kP 174 [eU u,aX p,.func (.func g) [] bs] (eU u2):=by
  have hc:=DH u.kids hl
  let q:=[iV p.a,iV p.i,iV p.n];exact b6 (ht:=oA) Tryz.func174<|Kv 5 (kT ((Tryz.prog).underlying 26) u.act u.item u.n p.a p.i p.n<|aw [aZ 8 false 0 [ak (uLx u)],aZ 3 false 0 [ak q],aZ 8 false 0 [ak [iV 0,iV 0,iV 0,iV 0,ax [],ab,ab,ab]]])<|Mt hp<|Kp 1 hc<|Ke 2 hd<|Kf 1<|bo<|ak (uLx u2)
theorem Vh(g:Nat)(bs:List AV)(p:PId)(u u2:TUnit)(n2:Nat)(Z:Nat->List AV)(hA:az [eU u,aX p,.func (.func g) [] bs]=0)(hp:(aa u.act p.a&&(aa u.item p.i&&aa u.n p.n))=true)(hl:u.kids.length<=2^20)(hne:u.kids≠[])(hn2:u2.kids.length=n2)(hd:∀k,kD g (.ptr 0 0 0 0::bs) (aw [eY u (.slice 3 0 0 u.kids.length (some (u.kids.length+k))),wy p,zO,ez ((u.kids++List.replicate k bC).map aY)]) (.tuple []) (aw [eY u2 (.slice 3 0 0 n2 (some (u.kids.length+k))),wy p,zO,ez (u2.kids.map aY++Z k)])):kP 174 [eU u,aX p,.func (.func g) [] bs] (eU u2):=by
  let q:=[ak (uLx u)];let q1:=[iV p.a,iV p.i,iV p.n];let q2:=[ak [iV 0,iV 0,iV 0,iV 0,ax [],ab,ab,ab]];let q3:=List.map aY u2.kids;exact b6 (ht:=oA) Tryz.func174<|Kv 5 (kT ((Tryz.prog).underlying 26) u.act u.item u.n p.a p.i p.n<|aw [aZ 8 false 0 q,aZ 3 false 0 [ak q1],aZ 8 false 0 q2])<|Mt hp<|Mg 1<|Mq (Fy u.kids hne hl (aZ 8 false 0 q) (aZ 3 false 0 [ak q1])<|aZ 8 false 0 q2) fun a _=>Ke 2 (hd a)<|M2 (.fza 0 7 3 [3,6] q3) (kg rt rt rt ti) (cF (aV 0) (P3 (xs:=List.map aY u2.kids) (ys:=Z a) (n:=n2) sA)<|aW iB u2.kids)<|Kf 1<|bo<|ak [iV u2.act,iV u2.item,iV u2.n,iV u2.kind,ax u2.label,aJ<|u2.head.map aQ,aJ<|u2.words.map aQ,aJ q3]
theorem Vo{l m:List TUnit}{i:Nat}(h:i<l.length):gD (l++m) i=gD l i:=by
  grind[gD]
theorem uF{l m:List TUnit}{i n:Nat}{x:TUnit}(h:l.length=n)(hi:i<n):((l++m).set i x).take n=l.set i x:=by
  simp_all
theorem Tg{l m:List TUnit}{n:Nat}(h:l.length=n):(l++m).take n=l:=by simp_all
theorem NY{l:List TUnit}{i:Nat}(h:i<l.length):l.drop i=gD l i::l.drop (i+1):=by
  grind[List.drop_eq_getElem_cons,gD]
theorem ZV{p:PId}{f:TUnit->TUnit}{l:List TUnit}{i:Nat}(h:jB p f l i (l.drop i))(hi:l.length<=i):dB p f l=l:=by
  grind[List.drop_eq_nil_of_le,jB.done]
theorem ZJ{p:PId}{f:TUnit->TUnit}{l:List TUnit}{i:Nat}(h:jB p f l i (l.drop i))(hi:i<l.length)(hw:bX p (gD l i)=false):jB p f l (i+1) (l.drop (i+1)):=by
  grind[NY,jB.skip]
theorem ZK{p:PId}{f:TUnit->TUnit}{l:List TUnit}{i:Nat}(h:jB p f l i (l.drop i))(hi:i<l.length)(hw:bX p (gD l i)=true):dB p f l=l.set i (cK p f (gD l i)):=by
  grind[NY,jB.hit]
theorem ZL(g:Nat)(bs:List AV)(p:PId)(u:TUnit)(hA:az [eU u,aX p,.func (.func g) [] bs]=0)(hA2:(AV.func (.func g) [] bs).top=0)(hp:(aa u.act p.a&&(aa u.item p.i&&aa u.n p.n))=false)(h0:u.kids.length=0)(hl0:aL 0 (Int.ofNat u.kids.length)=false):kP 174 [eU u,aX p,.func (.func g) [] bs] (eU u):=by
  have hc:=DH u.kids (by omega)
  let q:=[aZ 8 false 0 [ak (uLx u)],aZ 3 false 0 [ak [iV p.a,iV p.i,iV p.n]],aZ 8 false 0 [ak [iV 0,iV 0,iV 0,iV 0,ax [],ab,ab,ab]]];let q1:=[bx (bz g) [] bs,ah 0 0 0 0,ah 1 0 0 0,ah 2 0 0 0,aJ (u.kids.map aY),aJ (u.kids.map aY),nV u.kids.length,iV 0];exact b6 (ht:=oA) Tryz.func174<|Kv 5 (kT ((Tryz.prog).underlying 26) u.act u.item u.n p.a p.i p.n<|aw q)<|Mh hp<|Kp 1 hc<|Kl 2 27 (ln aY u.kids)<|Mg 0<|Y3 [2,3,4,6,7,26,27,28] (q1,q) True 0 ti fun _ _=>Kh 0 hl0<|Kf 4<|bo<|ak (uLx u)
theorem ZI(g:Nat)(bs:List AV)(p:PId)(f:TUnit->TUnit)(u:TUnit)(hA:az [eU u,aX p,.func (.func g) [] bs]=0)(hA2:(AV.func (.func g) [] bs).top=0)(hp:(aa u.act p.a&&(aa u.item p.i&&aa u.n p.n))=false)(hne:u.kids≠[])(hn:u.kids.length<=2^20)
    (hf:∀k,k∈u.kids->kP 21 [eU k,aX p] (.tuple [eU (ch p k),.bool (bX p k)]))
    (ih:∀k,k∈u.kids->kP 174 [eU k,aX p,.func (.func g) [] bs] (eU (cK p f k))):kP 174 [eU u,aX p,.func (.func g) [] bs] (eU (lu u (dB p f u.kids))):=by
  have rr0:∀b',(h:(List.map aY (lu u (dB p f u.kids)).kids)=b':=by first|rfl|(rw[ZK hx0.2 (by(first|omega|(simp only[oN]at *;omega))) (by rw[<-q0 (by(first|omega|(simp only[oN]at *;omega)))];assumption),q0 (by(first|omega|(simp only[oN]at *;omega)))];exact congrArg _ (uF rfl (by(first|omega|(simp only[oN]at *;omega)))).symm)|(rw[ZV hx0.2 (by(first|omega|(simp only[oN]at *;omega)))];exact congrArg _ (Tg rfl).symm))->(List.map aY (lu u (dB p f u.kids)).kids)=b':=(fun _ h=>h);exact b6 (ht:=oA) Tryz.func174<|Kv 5 (kT ((Tryz.prog).underlying 26) u.act u.item u.n p.a p.i p.n<|aw [aZ 8 false 0 [ak (uLx u)],aZ 3 false 0 [ak [iV p.a,iV p.i,iV p.n]],aZ 8 false 0 [ak [iV 0,iV 0,iV 0,iV 0,ax [],ab,ab,ab]]])<|Mh hp<|Mg 1<|Mq (Fy u.kids hne hn (aZ 8 false 0 [ak (uLx u)]) (aZ 3 false 0 [ak [iV p.a,iV p.i,iV p.n]])<|aZ 8 false 0 [ak [iV 0,iV 0,iV 0,iV 0,ax [],ab,ab,ab]]) fun a _=>Mg 3<|MO1 (0:Nat) [2,3,4,6,7,26,27,28] (fun b=>([bx (bz g) [] bs,ah 0 0 0 0,ah 1 0 0 0,ah 2 0 0 0,bQ 3 0 0 u.kids.length<|some<|u.kids.length+a,bQ 3 0 0 u.kids.length<|some<|u.kids.length+a,nV u.kids.length,nV b],[aZ 8 false 0 [ak (uLx u)],aZ 3 false 0 [ak [iV p.a,iV p.i,iV p.n]],aZ 8 false 0 [ak [iV 0,iV 0,iV 0,iV 0,ax [],ab,ab,ab]],aZ 8 false 0<|(u.kids++List.replicate a bC).map aY])) (fun a=>a<=u.kids.length/\jB p f u.kids a (u.kids.drop a)) (fun a=>u.kids.length-a) (by simp_all[jB.start]) fun b hx0 c=>have hx0:b<=u.kids.length/\jB p f u.kids b (u.kids.drop b):=hx0;have q0:b<u.kids.length->gD (u.kids++List.replicate a bC) b=gD u.kids b:=fun h=>Vo h;Ka 0 (Int.ofNat b) (Int.ofNat u.kids.length) (fun _ _=>K1 0 .rix (et (aV 0) (sA:b<u.kids.length))<|Mr (et (aV 0)<|sW aY (g:=Go.Ev.eU) aR (gR:b<(u.kids++List.replicate a bC).length))<|Kp 4 (hf (gD (u.kids++List.replicate a bC) b)<|by grind[gc])<|Kb 6 (bX p<|gD (u.kids++List.replicate a bC) b) (fun _=>Kp 4 (ih (gD (u.kids++List.replicate a bC) b)<|by grind[gc])<|M1 .rix (et (aV 0) (sA:b<u.kids.length))<|M1 (.rst (ak [iV (gD (u.kids++List.replicate a bC) b).act,iV (gD (u.kids++List.replicate a bC) b).item,iV (gD (u.kids++List.replicate a bC) b).n,iV (gD (u.kids++List.replicate a bC) b).kind,ax (gD (u.kids++List.replicate a bC) b).label,aJ<|List.map aQ (gD (u.kids++List.replicate a bC) b).head,aJ<|List.map aQ (gD (u.kids++List.replicate a bC) b).words,aJ<|List.map aY (gD (u.kids++List.replicate a bC) b).kids])<|((u.kids++List.replicate a bC).set b<|cK p f<|gD (u.kids++List.replicate a bC) b).map aY) (cF (aV 0) (sW aY (g:=Go.Ev.eU) aR (gR:b<(u.kids++List.replicate a bC).length))<|Ed (f:=aY) (g:=Go.Ev.eU) aR (l:=u.kids++List.replicate a bC) (i:=b) (w:=cK p f<|gD (u.kids++List.replicate a bC) b))<|Mg 0<|M2 (.fsl 3 [3,6] 48<|(((u.kids++List.replicate a bC).set b<|cK p f<|gD (u.kids++List.replicate a bC) b).take u.kids.length).map aY) (kg rt rt rt ti) (cF (aV 0) (CM (f:=aY) (l:=(u.kids++List.replicate a bC).set b<|cK p f<|gD (u.kids++List.replicate a bC) b) (n:=u.kids.length))<|aW iB<|((u.kids++List.replicate a bC).set b<|cK p f<|gD (u.kids++List.replicate a bC) b).take u.kids.length)<|Ml 48 (fc ((((u.kids++List.replicate a bC).set b<|cK p f<|gD (u.kids++List.replicate a bC) b).take u.kids.length).map aY) (oO (some<|u.kids.length+a)<|some u.kids.length)<|aW iB<|((u.kids++List.replicate a bC).set b<|cK p f<|gD (u.kids++List.replicate a bC) b).take u.kids.length)<|Kf 3 (bV (.cons (bo _)<|.cons (bo _)<|.cons (bo _)<|.cons (bo _)<|.cons (bo _)<|.cons (bo _)<|.cons (bo _)<|.cons (ct<|rr0<|(((u.kids++List.replicate a bC).set b<|cK p f<|gD (u.kids++List.replicate a bC) b).take u.kids.length).map aY) .nil)<|by kernel_rfl:Le _ (AV.agg [iV u.act,iV u.item,iV u.n,iV u.kind,AV.str u.label,AV.ls (u.head.map aQ),AV.ls (u.words.map aQ),AV.ls ((((u.kids++List.replicate a bC).set b (cK p f (gD (u.kids++List.replicate a bC) b))).take u.kids.length).map aY)]))) fun _=>Kl 0 47 (kf b)<|Mg 0<|M2 (.frl 4 [3,4,6,7,26,27,28] [2]) (JV (PS (sz:=8) (op:=false) (ep:=0) (n:=4)<|aW iB<|u.kids++List.replicate a bC) rt rt rt ti) (et (oA:(AV.func (Fn.func g) [] bs).top<=4) ti)<|Mf<|c (b+1) (by grind[ZJ]) gR) fun _ _=>Mg 0<|M2 (.fsl 3 [3,6] 48<|((u.kids++List.replicate a bC).take u.kids.length).map aY) (kg rt rt rt ti) (cF (aV 0) (CM (f:=aY) (l:=u.kids++List.replicate a bC) (n:=u.kids.length))<|aW iB<|(u.kids++List.replicate a bC).take u.kids.length)<|Ml 48 (fc (((u.kids++List.replicate a bC).take u.kids.length).map aY) (oO (some<|u.kids.length+a)<|some u.kids.length)<|aW iB<|(u.kids++List.replicate a bC).take u.kids.length)<|Kf 3 (bV (.cons (bo _)<|.cons (bo _)<|.cons (bo _)<|.cons (bo _)<|.cons (bo _)<|.cons (bo _)<|.cons (bo _)<|.cons (ct<|rr0<|((u.kids++List.replicate a bC).take u.kids.length).map aY) .nil)<|by kernel_rfl:Le _ (AV.agg [iV u.act,iV u.item,iV u.n,iV u.kind,AV.str u.label,AV.ls (u.head.map aQ),AV.ls (u.words.map aQ),AV.ls (((u.kids++List.replicate a bC).take u.kids.length).map aY)]))
theorem iE{g:Nat}{bs:List AV}{p:PId}(hb:az bs=0)(x:TUnit):az [eU x,aX p,.func (.func g) [] bs]=0:=by
  have h1:(eU x).top=0:=by rw[<-aR];exact iB x
  have h2:(AV.func (.func g) [] bs).top=0:=by simp only[AV.top,az,hb];rfl
  exact kn.2 fun y hy=>by
    simp only[dP,List.mem_nil_iff,or_false]at hy
    rcases hy with rfl|rfl|rfl
    · omega
    · exact Bc p
    omega
theorem pa(g:Nat)(bs:List AV)(p:PId)(f:TUnit->TUnit)(hb:az bs=0):∀(u:TUnit),nU u<=2^19->(∀x,x∈bv u->x.head.length<2^30/\x.words.length<2^30)->
    (∀v,v∈bv u->eD p v=true->kP 174 [eU v,aX p,.func (.func g) [] bs] (eU (f v)))->kP 174 [eU u,aX p,.func (.func g) [] bs] (eU (cK p f u)):=by
  refine TUnit.ind fun u ih hn ht hit=>?_
  have hA:=iE (g:=g) (bs:=bs) (p:=p) hb
  cases hi:eD p u with
  |true=>grind[m0,cX]
  | false=>
    have hkl:=bg u
    rw[jS hi]
    by_cases h0:u.kids=[]
    · have e:lu u (dB p f u.kids)=u:=by rw[h0,nY];cases u;simp only[TUnit.kids]at h0;subst h0;rfl
      rw[e]
      exact ZL g bs p u (hA u) (by simp only[AV.top,az,hb];rfl) hi (by simp_all) (by rw[h0];rfl)
    · exact ZI g bs p f u (hA u) (by simp only[AV.top,az,hb];rfl) hi h0 (by omega) (fun k hk=>Sz p k (by have:=gv hk;omega) fun x hx=>ht x (bj hk hx))
        fun k hk=>ih k hk (by have:=gv hk;omega) (fun x hx=>ht x (bj hk hx)) fun v hv=>hit v (bj hk hv)
theorem BE{bs:List AV}(rs:List Nat)(h0:gy rs 0=0)(hb:az bs=0):mB (gy rs) (.ptr 0 0 0 0::bs)=.ptr 0 0 0 0::bs:=by
  grind[mB,Ev.ren,fm]
theorem Bf{g:Nat}{bs:List AV}{u u2:TUnit}{n n2 c:Nat}{X X2:List AV}{A B:AObj}(hb:az bs=0)(hX:az X=0)(hX2:az X2=0)(h:kD g (.ptr 0 0 0 0::bs) (aw [eY u (.slice 1 0 0 n (some c)),ez X]) (.tuple []) (aw [eY u2 (.slice 1 0 0 n2 (some c)),ez X2])):
    kD g (.ptr 0 0 0 0::bs) (aw [eY u (.slice 3 0 0 n (some c)),A,B,ez X]) (.tuple []) (aw [eY u2 (.slice 3 0 0 n2 (some c)),A,B,ez X2]):=
  qq jX [0,3] h (BE _ rfl hb) rfl rfl ⟨⟨rfl,v8 (by kernel_rfl)⟩,⟨rfl,by show az X<=2;omega⟩,trivial⟩ ⟨⟨rfl,v8 (by kernel_rfl)⟩,⟨rfl,by show az X2<=2;omega⟩,trivial⟩
    (by show Nat.mx _ (az bs)<=2;rw[hb];exact v8 (by kernel_rfl)) (b8 _) ⟨by kernel_rfl,by rw[ww hX];kernel_rfl,trivial⟩ ⟨by kernel_rfl,by kernel_rfl,trivial⟩
    (by show _=AHeap.put (AHeap.put _ _ _) _ (kF _ (.row 8 false 0 X2));rw[ww hX2];kernel_rfl)
theorem DC{g:Nat}{bs:List AV}{u u2:TUnit}{n c:Nat}{X Y:List AV}{A B:AObj}(hb:az bs=0)(hX:az X=0)(h:kD g (.ptr 0 0 0 0::bs) (aw [eY u (.slice 1 0 0 n (some c)),ez X]) (.tuple []) (aw [eY u2 (.ls Y),ez X])):
    kD g (.ptr 0 0 0 0::bs) (aw [eY u (.slice 3 0 0 n (some c)),A,B,ez X]) (.tuple []) (aw [eY u2 (.ls Y),A,B,ez X]):=
  qq jX [0,3] h (BE _ rfl hb) rfl rfl ⟨⟨rfl,v8 (by kernel_rfl)⟩,⟨rfl,by show az X<=2;omega⟩,trivial⟩ ⟨⟨rfl,v8 (by kernel_rfl)⟩,⟨rfl,by show az X<=2;omega⟩,trivial⟩
    (by show Nat.mx _ (az bs)<=2;rw[hb];exact v8 (by kernel_rfl)) (b8 _) ⟨by kernel_rfl,by rw[ww hX];kernel_rfl,trivial⟩ ⟨by kernel_rfl,by kernel_rfl,trivial⟩
    (by show _=AHeap.put (AHeap.put _ _ _) _ (kF _ (.row 8 false 0 X));rw[ww hX];kernel_rfl)
theorem kw{g:Nat}{bs:List AV}{u u2:TUnit}{A B:AObj}{K K2:AV}(hb:az bs=0)(h1:az [.agg [iV u.act,iV u.item,iV u.n,iV u.kind,.str u.label,.ls (u.head.map aQ),.ls (u.words.map aQ),K]]=0)(h2:az [.agg [iV u2.act,iV u2.item,iV u2.n,iV u2.kind,.str u2.label,.ls (u2.head.map aQ),.ls (u2.words.map aQ),K2]]=0)(h:kD g (.ptr 0 0 0 0::bs) (aw [eY u K]) (.tuple []) (aw [eY u2 K2])):
    kD g (.ptr 0 0 0 0::bs) (aw [eY u K,A,B]) (.tuple []) (aw [eY u2 K2,A,B]):=
  fO jX 0 h1 h2 h (BE _ rfl hb) rfl rfl (by simp only[az,AV.top,hb];rfl) rfl (by kernel_rfl) (by kernel_rfl)
theorem MS(g:Nat)(bs:List AV)(p:PId)(u u2:TUnit)(n2:Nat)(Z:Nat->List AV)(hA:az [eU u,aX p,.func (.func g) [] bs]=0)(hp:(aa u.act p.a&&(aa u.item p.i&&aa u.n p.n))=true)(hl:u.kids.length<=2^20)(hne:u.kids≠[])(hn2:u2.kids.length=n2)
    (hdA:∀k,By (Nat.beq k 0) true->kD g (.ptr 0 0 0 0::bs) (aw [eY u (.slice 3 0 0 u.kids.length (some (u.kids.length+k))),wy p,zO,ez ((u.kids++List.replicate k bC).map aY)]) (.tuple []) (aw [eY u2 (.ls (u2.kids.map aY)),wy p,zO,ez ((u.kids++List.replicate k bC).map aY)]))
    (hdB:∀k,By (Nat.beq k 0) false->kD g (.ptr 0 0 0 0::bs) (aw [eY u (.slice 3 0 0 u.kids.length (some (u.kids.length+k))),wy p,zO,ez ((u.kids++List.replicate k bC).map aY)]) (.tuple []) (aw [eY u2 (.slice 3 0 0 n2 (some (u.kids.length+k))),wy p,zO,ez (u2.kids.map aY++Z k)])):kP 174 [eU u,aX p,.func (.func g) [] bs] (eU u2):=by
  let q:=ak (uLx u2);let q1:=[ak (uLx u)];let q2:=[iV p.a,iV p.i,iV p.n];let q3:=[ak [iV 0,iV 0,iV 0,iV 0,ax [],ab,ab,ab]];exact b6 (ht:=oA) Tryz.func174<|Kv 5 (kT ((Tryz.prog).underlying 26) u.act u.item u.n p.a p.i p.n<|aw [aZ 8 false 0 q1,aZ 3 false 0 [ak q2],aZ 8 false 0 q3])<|Mt hp<|Mg 1<|Mq (Fy u.kids hne hl (aZ 8 false 0 q1) (aZ 3 false 0 [ak q2])<|aZ 8 false 0 q3) fun a _=>Ks 2 (a.beq 0) (fun b=>Me (hdA a b)<|Kf 1<|bo q) fun b=>Me (hdB a b)<|M2 (.fza 0 7 3 [3,6]<|u2.kids.map aY) (kg rt rt rt ti) (cF (aV 0) (P3 (xs:=List.map aY u2.kids) (ys:=Z a) (n:=n2) sA)<|aW iB u2.kids)<|Kf 1<|bo q
theorem MT(g:Nat)(bs:List AV)(p:PId)(u u2:TUnit)(hA:az [eU u,aX p,.func (.func g) [] bs]=0)(hp:(aa u.act p.a&&(aa u.item p.i&&aa u.n p.n))=true)(h0:u.kids=[])
    (hdN:kD g (.ptr 0 0 0 0::bs) (aw [eY u .nils,wy p,zO]) (.tuple []) (aw [eY u2 (.ls (u2.kids.map aY)),wy p,zO]))
    (hdP:kD g (.ptr 0 0 0 0::bs) (aw [eY u (.ps [] true),wy p,zO]) (.tuple []) (aw [eY u2 (.ls (u2.kids.map aY)),wy p,zO])):kP 174 [eU u,aX p,.func (.func g) [] bs] (eU u2):=by
  obtain⟨a,i,n,k,l,h,w,ks⟩:=u
  simp only[TUnit.kids]at h0
  subst h0
  let q:=ak (uLx u2);let q1:=[iV p.a,iV p.i,iV p.n];exact b6 (ht:=oA) Tryz.func174<|Kv 5 (kT ((Tryz.prog).underlying 26) (TUnit.mk a i n k l h w []).act (TUnit.mk a i n k l h w []).item (TUnit.mk a i n k l h w []).n p.a p.i p.n<|aw [aZ 8 false 0 [ak [iV (TUnit.mk a i n k l h w []).act,iV (TUnit.mk a i n k l h w []).item,iV (TUnit.mk a i n k l h w []).n,iV (TUnit.mk a i n k l h w []).kind,ax l,aJ<|List.map aQ (TUnit.mk a i n k l h w []).head,aJ<|List.map aQ (TUnit.mk a i n k l h w []).words,aJ []]],aZ 3 false 0 [ak q1],aZ 8 false 0 [ak [iV 0,iV 0,iV 0,iV 0,ax [],ab,ab,ab]]])<|Mt hp<|Mg 1<|Mz 17 (fun(_:([]:List AV)=[])=>Mp IB<|Ke 2 hdN<|Kf 1<|bo q)<|Mp IA<|Ke 2 hdP<|Kf 1<|bo q
theorem km{a b:List AV}(h1:az a=0)(h2:az b=0):az (a++b)=0:=kn.2 fun x hx=>by
  rcases mZ.1 hx with h|h
  · exact kn.1 h1 x h
  · exact kn.1 h2 x h
theorem SU(l:List TUnit):eX 8 (l.map aY)=true:=gY (fun u=>by cases u;rfl) l
theorem Vu(x:TUnit):eX 8 [eU x]=true:=by kernel_rfl
theorem OT(x:TUnit):(eU x).top=0:=by rw[<-aR];exact iB x
theorem ut{i:Nat}{x:TUnit}{l:List AV}(h:az l=0):az (g9 i (eU x) l)=0:=kn.2 fun y hy=>by
  unfold g9 at hy
  rcases mZ.1 hy with h1|h1
  · exact kn.1 h y (ue h1)
  · rcases dP.1 h1 with rfl|h1
    · exact OT x
    · exact kn.1 h y (Pn h1)
theorem MF(i:Nat)(x:TUnit)(l:List TUnit):(rh i x l).map aY=g9 i (eU x) (l.map aY):=by
  unfold rh g9
  rw[sH,eg,List.map_take,List.map_drop,aR]
theorem NU(i:Nat)(l:List TUnit):(l.eraseIdx i).map aY=(l.map aY).eraseIdx i:=by
  grind[List.eraseIdx_eq_take_drop_succ,List.map_take,List.map_drop]
theorem Dc{i:Nat}{x:TUnit}{l:List TUnit}(h:i<=l.length):(rh i x l).length=l.length+1:=by
  grind[rh]
theorem Hc(l:List TUnit)(k:Nat):(l++List.replicate k bC).map aY=l.map aY++List.replicate k (aY bC):=by simp_all
theorem mI(k:Nat):az (List.replicate k (aY bC))=0:=by rw[<-List.map_replicate];exact aW iB _
theorem PE(p:PId)(i:Nat)(u:TUnit)(hn:nU u<=2^19)(ht:∀x,x∈bv u->x.head.length<2^30/\x.words.length<2^30)(hv:∀v,v∈bv u->eD p v=true->i<v.kids.length):
    bY Tryz.prog G 174 [eU u,aX p,.func (.func 247) [] [.pptr [.int .i64 (.ofNat i)] 0 0]] (eU (cK p (fu i) u)):=by
  refine pa _ _ p (fu i) rfl u hn ht fun v hm hid=>?_
  have hi:=hv v hm hid
  have hkl:=bg v
  have hvu:=eA hm
  have hl:v.kids.length<=2^20:=by omega
  refine Vh _ _ p v (fu i v) (v.kids.length-1) (fun k=>zU::List.replicate k (aY bC)) (iE rfl v) hid hl (fun e=>by grind) (by show(v.kids.eraseIdx i).length=_;grind) fun k=>?_
  have h:=SD (v.kids.map aY) (List.replicate k (aY bC)) v.kids.length i hi (cJ _) hl (SU _) (km (aW iB _) (mI k))
  rw[qM]at h
  have hT:az ((v.kids.map aY).eraseIdx i++(zU::List.replicate k (aY bC)))=0:=km (by rw[<-NU];exact aW iB _) (by show Nat.mx zU.top (az _)=0;rw[mI];rfl)
  rw[Hc]
  show aN _ _ _ _ _ fun v1 h1=>v1=.tuple []/\h1=aw [eY v (.slice 3 0 0 (v.kids.length-1) (some (v.kids.length+k))),wy p,zO,ez ((v.kids.eraseIdx i).map aY++_)]
  rw[NU]
  refine Bf rfl (km (aW iB _) (mI k)) hT (ZW v v.kids.length _ i _ _ (km (aW iB _) (mI k)) hT hi hl ?_)
  exact fO jX 1 (km (aW iB _) (mI k)) hT h rfl rfl (by simp_all) (by kernel_rfl) (by kernel_rfl) (by kernel_rfl) (by kernel_rfl)
theorem Xp(x:TUnit)(t:Bool)(off len c:Nat)(X:List AV):kD 245 [.ps [eU x] t,.slice 0 0 off len (some c)] (aw [ez X]) (.bool false) (aw [ez X]):=
  Cz (tS:=28) (tR:=4) (e:=30) (n:=8) Tryz.func245 (by kernel_rfl) (by kernel_rfl) (by kernel_rfl) (by kernel_rfl) (by simp_all) (by kernel_rfl) (mo _ _) (by kernel_rfl:(aw [ez X]).get 0=some (.row 8 false 0 X))
theorem Hl(L:List AV)(x:TUnit)(z:AV)(Z:List AV)(n k i:Nat)(hi:i<=n)(hn:L.length=n)(hs:n<2^20)(hk:Z.length=k)(hf:eX 8 L=true)(hT:az (L++z::Z)=0):kD 176 [.slice 0 0 0 n (some (n+(k+1))),nV i,.ps [eU x] true] (aw [ez (L++z::Z)]) (.slice 0 0 0 (n+1) (some (n+(k+1)))) (aw [ez (g9 i (eU x) L++Z)]):=by
  rcases gQ i n with h|h
  · grind[Rp,Vu,Xp]
  · obtain rfl:i=n:=by omega
    exact Rs L Z (eU x) z true i k hn hs hk (Vu x)
theorem Ho(L:List AV)(x:TUnit)(n i:Nat)(hi:i<=n)(hn:L.length=n)(hs:n<2^20)(hf:eX 8 L=true)(hT:az L=0):kD 176 [.slice 0 0 0 n (some n),nV i,.ps [eU x] true] (aw [ez L]) (.ls (g9 i (eU x) L)) (aw [ez L]):=by
  rcases gQ i n with h|h
  · refine Ro L (eU x) true n i h hn hs (Vu x) hf hT (kn.2 fun y hy=>?_) (ut hT)
    rcases mZ.1 hy with h1|h1
    · exact kn.1 hT y (ue h1)
    · rcases dP.1 h1 with rfl|h1
      · exact OT x
      · rw[(List.mem_replicate.1 h1).2];rfl
  · grind[Rr,Vu,ut]
theorem PC(p:PId)(i:Nat)(x u:TUnit)(hn:nU u<=2^19)(ht:∀x,x∈bv u->x.head.length<2^30/\x.words.length<2^30)(hv:∀v,v∈bv u->eD p v=true->i<=v.kids.length):
    bY Tryz.prog G 174 [eU u,aX p,.func (.func 175) [] [.pptr [.int .i64 (.ofNat i)] 0 0,.pptr [eU x] 0 0]] (eU (cK p (dV i x) u)):=by
  have hb:az [.pptr [.int .i64 (.ofNat i)] 0 0,.pptr [eU x] 0 0]=0:=by kernel_rfl
  refine pa _ _ p (dV i x) hb u hn ht fun v hm hid=>?_
  have hi:=hv v hm hid
  have hkl:=bg v
  have hvu:=eA hm
  have hl:v.kids.length<2^20:=by omega
  have hK:=aW iB v.kids
  by_cases h0:v.kids=[]
  · rw[h0]at hi
    obtain rfl:i=0:=by simp_all
    have e:(dV 0 x v).kids =[x]:=by show rh 0 x v.kids=[x];rw[h0];rfl
    have e2:(dV 0 x v).kids.map aY=[eU x]:=by rw[e,eg,aR];rfl
    refine MT _ _ p v (dV 0 x v) (iE hb v) hid h0 ?_ ?_
    · rw[e2];exact kw (u2:=dV 0 x v) hb (by kernel_rfl) (by kernel_rfl) (X7 v x [eU x] (Hn x true))
    · rw[e2];exact kw (u2:=dV 0 x v) hb (by kernel_rfl) (by kernel_rfl) (X6 v x [eU x] (Hm x true))
  · have e2:(dV i x v).kids.map aY=g9 i (eU x) (v.kids.map aY):=MF i x v.kids
    refine MS _ _ p v (dV i x v) (v.kids.length+1) (fun k=>List.replicate (k-1) (aY bC)) (iE hb v) hid (by omega) h0 (Dc hi) (fun k hk=>?_) fun k hk=>?_
    · obtain rfl:k=0:=qx hk
      rw[e2,Hc,List.replicate_zero,eF]
      refine DC (u2:=dV i x v) hb hK (X8 v x v.kids.length _ i _ _ hK ?_)
      exact fO jX 1 hK hK (Ho (v.kids.map aY) x v.kids.length i hi (cJ _) hl (SU _) hK) rfl rfl (by simp_all) (by kernel_rfl) (by kernel_rfl) (by kernel_rfl) (by kernel_rfl)
    · obtain⟨j,rfl⟩:∃j,k=j+1:=⟨k-1,by grind[Nat.ne_of_beq_eq_false]⟩
      rw[e2,Hc,show j+1-1=j from rfl,List.replicate_succ]
      have hT:az (v.kids.map aY++aY bC::List.replicate j (aY bC))=0:=by rw[<-List.replicate_succ];grind[km,mI]
      have hT2:az (g9 i (eU x) (v.kids.map aY)++List.replicate j (aY bC))=0:=km (ut hK) (mI _)
      refine Bf (u2:=dV i x v) hb hT hT2 (X9 v x v.kids.length _ i _ _ hT hT2 ?_)
      exact fO jX 1 hT hT2 (Hl (v.kids.map aY) x (aY bC) (List.replicate j (aY bC)) v.kids.length j i hi (cJ _) hl (qM ..) (SU _) hT) rfl rfl (by simp_all) (by kernel_rfl) (by kernel_rfl) (by kernel_rfl) (by kernel_rfl)
theorem PB(p:PId)(i:Nat)(x u:TUnit)(hn:nU u<=2^19)(ht:∀x,x∈bv u->x.head.length<2^30/\x.words.length<2^30)(hv:∀v,v∈bv u->eD p v=true->i<=v.kids.length):
    bY Tryz.prog G 174 [eU u,aX p,.func (.func 186) [] [.pptr [.int .i64 (.ofNat i)] 0 0,.pptr [eU x] 0 0]] (eU (cK p (dV i x) u)):=by
  have hb:az [.pptr [.int .i64 (.ofNat i)] 0 0,.pptr [eU x] 0 0]=0:=by kernel_rfl
  refine pa _ _ p (dV i x) hb u hn ht fun v hm hid=>?_
  have hi:=hv v hm hid
  have hkl:=bg v
  have hvu:=eA hm
  have hl:v.kids.length<2^20:=by omega
  have hK:=aW iB v.kids
  by_cases h0:v.kids=[]
  · rw[h0]at hi
    obtain rfl:i=0:=by simp_all
    have e:(dV 0 x v).kids =[x]:=by show rh 0 x v.kids=[x];rw[h0];rfl
    have e2:(dV 0 x v).kids.map aY=[eU x]:=by rw[e,eg,aR];rfl
    refine MT _ _ p v (dV 0 x v) (iE hb v) hid h0 ?_ ?_
    · rw[e2];exact kw (u2:=dV 0 x v) hb (by kernel_rfl) (by kernel_rfl) (XH v x [eU x] (Hn x true))
    · rw[e2];exact kw (u2:=dV 0 x v) hb (by kernel_rfl) (by kernel_rfl) (XG v x [eU x] (Hm x true))
  · have e2:(dV i x v).kids.map aY=g9 i (eU x) (v.kids.map aY):=MF i x v.kids
    refine MS _ _ p v (dV i x v) (v.kids.length+1) (fun k=>List.replicate (k-1) (aY bC)) (iE hb v) hid (by omega) h0 (Dc hi) (fun k hk=>?_) fun k hk=>?_
    · obtain rfl:k=0:=qx hk
      rw[e2,Hc,List.replicate_zero,eF]
      refine DC (u2:=dV i x v) hb hK (XI v x v.kids.length _ i _ _ hK ?_)
      exact fO jX 1 hK hK (Ho (v.kids.map aY) x v.kids.length i hi (cJ _) hl (SU _) hK) rfl rfl (by simp_all) (by kernel_rfl) (by kernel_rfl) (by kernel_rfl) (by kernel_rfl)
    · obtain⟨j,rfl⟩:∃j,k=j+1:=⟨k-1,by grind[Nat.ne_of_beq_eq_false]⟩
      rw[e2,Hc,show j+1-1=j from rfl,List.replicate_succ]
      have hT:az (v.kids.map aY++aY bC::List.replicate j (aY bC))=0:=by rw[<-List.replicate_succ];grind[km,mI]
      have hT2:az (g9 i (eU x) (v.kids.map aY)++List.replicate j (aY bC))=0:=km (ut hK) (mI _)
      refine Bf (u2:=dV i x v) hb hT hT2 (XL v x v.kids.length _ i _ _ hT hT2 ?_)
      exact fO jX 1 hT hT2 (Hl (v.kids.map aY) x (aY bC) (List.replicate j (aY bC)) v.kids.length j i hi (cJ _) hl (qM ..) (SU _) hT) rfl rfl (by simp_all) (by kernel_rfl) (by kernel_rfl) (by kernel_rfl) (by kernel_rfl)
theorem Pt(p:PId)(l:List PWord)(u:TUnit)(hn:nU u<=2^19)(ht:∀x,x∈bv u->x.head.length<2^30/\x.words.length<2^30):
    kP 174 [eU u,aX p,.func (.func 179) [] [.pptr [.ls (l.map aQ)] 0 0]] (eU (cK p (jN l) u)):=by
  have hb:az [.pptr [.ls (l.map aQ)] 0 0]=0:=by kernel_rfl
  refine pa _ _ p (jN l) hb u hn ht fun v hm hid=>?_
  have hkl:=bg v
  have hvu:=eA hm
  exact yP _ _ p v ((jN l) v) (iE hb v) hid (by omega) (kw hb (by kernel_rfl) (by kernel_rfl) (ZZ v l))
theorem PA(p:PId)(l:List PWord)(u:TUnit)(hn:nU u<=2^19)(ht:∀x,x∈bv u->x.head.length<2^30/\x.words.length<2^30):
    kP 174 [eU u,aX p,.func (.func 181) [] [.pptr [.ls (l.map aQ)] 0 0]] (eU (cK p (jN l) u)):=by
  have hb:az [.pptr [.ls (l.map aQ)] 0 0]=0:=by kernel_rfl
  refine pa _ _ p (jN l) hb u hn ht fun v hm hid=>?_
  have hkl:=bg v
  have hvu:=eA hm
  exact yP _ _ p v ((jN l) v) (iE hb v) hid (by omega) (kw hb (by kernel_rfl) (by kernel_rfl) (Zl v l))
theorem PD(p:PId)(l:List PWord)(u:TUnit)(hn:nU u<=2^19)(ht:∀x,x∈bv u->x.head.length<2^30/\x.words.length<2^30):
    kP 174 [eU u,aX p,.func (.func 183) [] [.pptr [.ls (l.map aQ)] 0 0]] (eU (cK p (rl l) u)):=by
  have hb:az [.pptr [.ls (l.map aQ)] 0 0]=0:=by kernel_rfl
  refine pa _ _ p (rl l) hb u hn ht fun v hm hid=>?_
  have hkl:=bg v
  have hvu:=eA hm
  exact yP _ _ p v ((rl l) v) (iE hb v) hid (by omega) (kw hb (by kernel_rfl) (by kernel_rfl) (Z1 v l))
theorem Pu(p:PId)(d:PDeed)(u:TUnit)(hn:nU u<=2^19)(ht:∀x,x∈bv u->x.head.length<2^30/\x.words.length<2^30):
    kP 174 [eU u,aX p,.func (.func 185) [] [.pptr [aq d] 0 0]] (eU (cK p (ji d.it.label) u)):=by
  have hb:az [.pptr [aq d] 0 0]=0:=by kernel_rfl
  refine pa _ _ p (ji d.it.label) hb u hn ht fun v hm hid=>?_
  have hkl:=bg v
  have hvu:=eA hm
  exact yP _ _ p v ((ji d.it.label) v) (iE hb v) hid (by omega) (kw hb (by kernel_rfl) (by kernel_rfl) (Zh v d))
end Go.Proofs.YtdhkhecalpkngaaGreatDoor
