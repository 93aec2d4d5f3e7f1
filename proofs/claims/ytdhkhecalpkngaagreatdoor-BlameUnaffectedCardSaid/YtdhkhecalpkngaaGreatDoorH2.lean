/- Functions walked: what each of them answers, for An item in force that is not a contributor changes neither the presence nor the label, heading and words of the unit: part 2. Conditions: those that each theorem names. -/
import Derived.Test.YtdhkhecalpkngaaGreatDoorH1
namespace Go.Proofs.YtdhkhecalpkngaaGreatDoor
open Go Go.Ev
theorem lW(u:TUnit)(s:PStep):kP 111 [eU u,az s] (.bool (bu s u)):=by
  have rr0 b' (h:(bu s u)=b':=by(simp only[bu,bz,aS,aj,bS, *];first|done|rfl)):=h;exact bB Tryz.func111<|Kb 8 (ab u.kind s.kind) (fun a=>Kt 0 a<|Kt 0 a<|Kt 0 a<|Kt 0 a<|Ku 0 a<|Kf 0<|cC<|rr0<|dP u.label s.label) fun a=>Mh a<|Mh a<|Mh a<|Mh a<|My a<|Ky 0<|rr0 false
noncomputable abbrev ji(p:List PStep):AObj:=.row 1 false 0 [.ls (p.map az)]
noncomputable abbrev EC(ep n:Nat):AObj:=.row 1 false 0 [.slice 2 ep 0 n none]
noncomputable abbrev Bh(ep:Nat)(l:List TUnit):AObj:=.row 8 true ep (l.map aU)
noncomputable abbrev Nn:AObj:=.row 1 false 0 [.nils]
theorem CP(s:PStep)(rs:List PStep)(u:TUnit)(h:By (bu s u) false):kD 110 [eU u,.ptr 0 0 0 0,.ptr 1 0 0 0] (aa [ji (s::rs),Nn]) (.tuple []) (aa [ji (s::rs),Nn]):=by
  have h':bu s u=false:=h
  exact fu Tryz.func110 fun a=>Kp 4 (lW u s)<|Mh h'<|M1 (.frz 2 []) (co rt rt ti)<|Mf a
theorem Jg(s:PStep)(rs:List PStep)(u:TUnit)(h:By (bu s u) true):kD 110 [eU u,.ptr 0 0 0 0,.ptr 1 0 0 0] (aa [ji (s::rs),Nn]) (.tuple []) (aa [ji (s::rs),EC 0 1,Bh 0 [u]]):=by
  have h':bu s u=true:=h
  exact OE Tryz.func110<|Kp 4 (lW u s)<|Mt h'<|Mg 7<|M0 (.ren [0,1,3,2] [] [])<|M1 (.frz 3 []) (ju rt rt rt ti)<|Mf<|et (aJ<|b8 []) (by(simp only[Bh,eb,wK,aO];rfl):(aa [AObj.row 1 false 0 [AV.ls ((s::rs).map az)],AObj.row 1 false 0 [AV.slice 2 0 0 1 none],AObj.row 8 true 0 [AV.agg [iV u.act,iV u.item,iV u.n,iV u.kind,AV.str u.label,AV.ls (u.head.map aQ),AV.ls (u.words.map aQ),AV.ls (u.kids.map aU)]]])=(aa [ji (s::rs),EC 0 1,Bh 0 [u]]))
theorem NP(s:PStep)(rs:List PStep)(u:TUnit)(ep n:Nat)(l:List TUnit)(h:By (bu s u) false):kD 110 [eU u,.ptr 0 0 0 0,.ptr 1 0 0 0] (aa [ji (s::rs),EC ep n,Bh ep l]) (.tuple []) (aa [ji (s::rs),EC ep n,Bh ep l]):=by
  have h':bu s u=false:=h
  exact fu Tryz.func110 fun a=>Kp 4 (lW u s)<|Mh h'<|M1 (.frz 3 []) (ju (tR 8 true ep 3<|aX gT l) rt rt ti)<|Mf a
theorem NR(s:PStep)(rs:List PStep)(u:TUnit)(ep n:Nat)(l:List TUnit)(h:By (bu s u) true)(hn:n=l.length)(hl:l.length<2^30):kD 110 [eU u,.ptr 0 0 0 0,.ptr 1 0 0 0] (aa [ji (s::rs),EC ep n,Bh ep l]) (.tuple []) (aa [ji (s::rs),EC (ep+1) (n+1),Bh (ep+1) (l++[u])]):=by
  have h':bu s u=true:=h
  let q:=[iV 0,iV 0,iV 0,iV 0,ax [],ak,ak,ak];let q1:=List.map aU l++[av q];exact fu Tryz.func110 fun a=>Kp 4 (lW u s)<|Mt h'<|Mg 3<|Mw (.apx q1<|.rix<|.rst (av q) ((l++[u]).map aU)<|.go 0<|.frz 3 [] .fin)<|Xr rt (iY (tR 8 true ep 4<|aX gT l) rt) (et (j5 _ _:([av q]:List AV)≠[]) rt) (et (co (aJ ep) (sA:n=(l.map aU).length) (by(refine aD (m:=2^31) ?_ ?_ ?_<;>(try simp only[lC,lN])<;>omega):small (n+([AV.agg [iV 0,iV 0,iV 0,iV 0,AV.str [],AV.nils,AV.nils,AV.nils]]).length) 120=true))<|aJ q1) (et (aJ<|ep+1) (oA:n<n+1)) rt (iY (tR 8 true (ep+1) 4 (by exact Wv _ rfl:aq q1=0)) rt) (co (aJ<|ep+1) (Qz (f:=aU) (l:=l) (z:=av q) (oA:n=(l).length))<|Pn (f:=aU) (g:=Go.Ev.eU) aO (l:=l) (z:=av q) (w:=u) (oA:n=(l).length)) (ju (tR 8 true (ep+1) 3<|aX gT<|l++[u]) rt rt ti) a
theorem Hs(s:PStep)(rs:List PStep):∀(u:TUnit),∀(ep n:Nat)(l:List TUnit),n=l.length->l.length+nU u<2^30->kC 109 [eU u,.func (.func 110) [] [.ptr 0 0 0 0,.ptr 1 0 0 0]] (aa [ji (s::rs),EC ep n,Bh ep l])
    (fun v h=>∃y:Nat×Nat×List TUnit,(y.2.1=y.2.2.length/\y.2.2=l++ll s u)/\v=.tuple []/\h=aa [ji (s::rs),EC y.1 y.2.1,Bh y.1 y.2.2]):=by
  refine TUnit.ind fun u ih ep n l hn hl=>?_
  have hq:=jQ u
  have hkl:=bg u
  have hp:=zx s u
  rcases Bool.eq_false_or_eq_true (bu s u)with hc|hc
  · rw[hc]at hp
    exact qY Tryz.func109 fun a=>K1 2 (.frz 3 [1,2,6,7]) (ju (tR 8 true ep 3<|aX gT l) rt rt ti)<|Me (NR s rs u ep n l hc hn oA)<|Kl 2 11 (ln aU u.kids)<|Mg 0<|Vn aU u.kids (ep+1) (n+1) (l++[u]) [1,10,11,12] (fun a _ b c d=>([bV (bK 110) [] [bX 0 0 0 0,bX 1 0 0 0],aW<|u.kids.map aU,nV u.kids.length,nV a],[aZ 1 false 0 [aW<|(s::rs).map az],aZ 1 false 0 [aH 2 b 0 c none],aZ 8 true b<|d.map aU])) (fun a _ b c=>b=c.length/\c++dq s a=l++[u]++dq s u.kids/\c.length+eQ a<2^30) gR (fun _ _ b c d _ _ _ e _=>Kh 0 e<|Mf<|a (b,c,d)<|by grind[mR]) fun a _ b c d e f g i j k m _ o _=>have o:=(o).trans<|congrArg some<|aO g;have:=cT (J:=fun a b=>b.2.1=b.2.2.length/\b.2.2++dq s a=l++[u]++dq s u.kids/\b.2.2.length+eQ a<2^30) (a:=(b,c,d)) k f;have e:=aN e k;have f:d.length+nU g<2^30:=(by grind[bf]);Kt 0 m<|Mx o<|K1 4 (.frz 3 [1,10,11,12,16,17]) (ju (tR 8 true b 3<|aX gT d) rt rt ti)<|Mq (ih g e b c d oA f) fun b _=>Kl 0 19 (dB a)<|Kf 0<|j b.1 b.2.1 b.2.2<|by grind[bf,gu,mn]
  · rw[hc]at hp
    exact qY Tryz.func109 fun a=>K1 2 (.frz 3 [1,2,6,7]) (ju (tR 8 true ep 3<|aX gT l) rt rt ti)<|Me (NP s rs u ep n l hc)<|Kl 2 11 (ln aU u.kids)<|Mg 0<|Vn aU u.kids ep n l [1,10,11,12] (fun a _ b c d=>([bV (bK 110) [] [bX 0 0 0 0,bX 1 0 0 0],aW<|u.kids.map aU,nV u.kids.length,nV a],[aZ 1 false 0 [aW<|(s::rs).map az],aZ 1 false 0 [aH 2 b 0 c none],aZ 8 true b<|d.map aU])) (fun a _ b c=>b=c.length/\c++dq s a=l++dq s u.kids/\c.length+eQ a<2^30) gR (fun _ _ b c d _ _ _ e _=>Kh 0 e<|Mf<|a (b,c,d)<|by grind[mR]) fun a _ b c d e f g i j k m _ o _=>have o:=(o).trans<|congrArg some<|aO g;have:=cT (J:=fun a b=>b.2.1=b.2.2.length/\b.2.2++dq s a=l++dq s u.kids/\b.2.2.length+eQ a<2^30) (a:=(b,c,d)) k f;have e:=aN e k;have f:d.length+nU g<2^30:=(by grind[bf]);Kt 0 m<|Mx o<|K1 4 (.frz 3 [1,10,11,12,16,17]) (ju (tR 8 true b 3<|aX gT d) rt rt ti)<|Mq (ih g e b c d oA f) fun b _=>Kl 0 19 (dB a)<|Kf 0<|j b.1 b.2.1 b.2.2<|by grind[bf,gu,mn]
theorem Ht(s:PStep)(rs:List PStep):∀(u:TUnit),nU u<=2^20->By (ll s u).isEmpty true->kD 109 [eU u,.func (.func 110) [] [.ptr 0 0 0 0,.ptr 1 0 0 0]] (aa [ji (s::rs),Nn]) (.tuple []) (aa [ji (s::rs),Nn]):=by
  refine TUnit.ind fun u ih hn he=>?_
  have hkl:=bg u
  have hp:=zx s u
  have he':=List.isEmpty_iff.1 (show(ll s u).isEmpty=true from he)
  rw[he']at hp
  rcases Bool.eq_false_or_eq_true (bu s u)with hc|hc
  · grind
  · rw[hc]at hp
    have hp:dq s u.kids=[]:=hp.symm
    exact fu Tryz.func109 fun a=>K1 2 (.frz 2 [1,2,6,7]) (co rt rt ti)<|Me (CP s rs u hc)<|Kl 2 11 (ln aU u.kids)<|Mg 0<|vZ aU u.kids [1,10,11,12] (fun a _=>([bV (bK 110) [] [bX 0 0 0 0,bX 1 0 0 0],aW<|u.kids.map aU,nV u.kids.length,nV a],[aZ 1 false 0 [aW<|(s::rs).map az],aZ 1 false 0 [ak]])) (fun a=>dq s a=[]) oA (fun _ _ _ _ _ b _=>Kh 0 b<|Mf a) fun a _ b _ c d e f g _ h i=>have h:=h.trans<|congrArg some<|aO c;have j:=aN b f;have b:=bH (oM<|ig<|aN b f) hn;have f:(ll s c).isEmpty=true:=(by rw[gu]at i;rw[(List.append_eq_nil_iff.1 i).1];rfl);Kt 0 g<|Mx h<|K1 4 (.frz 2 [1,10,11,12,16,17]) (co rt rt ti)<|Me (ih c j b f)<|Kl 0 19 (dB a)<|Kf 0<|e<|by grind[gu]
theorem RG(s:PStep)(rs:List PStep):∀(u:TUnit),nU u<=2^20->By (ll s u).isEmpty false->kC 109 [eU u,.func (.func 110) [] [.ptr 0 0 0 0,.ptr 1 0 0 0]] (aa [ji (s::rs),Nn])
    (fun v h=>∃y:Nat×Nat×List TUnit,(y.2.1=y.2.2.length/\y.2.2=ll s u)/\v=.tuple []/\h=aa [ji (s::rs),EC y.1 y.2.1,Bh y.1 y.2.2]):=by
  refine TUnit.ind fun u ih hn he=>?_
  have hq:=jQ u
  have hkl:=bg u
  have hp:=zx s u
  rcases Bool.eq_false_or_eq_true (bu s u)with hc|hc
  · rw[hc]at hp
    exact qY Tryz.func109 fun a=>K1 2 (.frz 2 [1,2,6,7]) (co rt rt ti)<|Me (Jg s rs u hc)<|Kl 2 11 (ln aU u.kids)<|Mg 0<|Vn aU u.kids (0:Nat) (1:Nat) ([u]:List TUnit) [1,10,11,12] (fun a _ b c d=>([bV (bK 110) [] [bX 0 0 0 0,bX 1 0 0 0],aW<|u.kids.map aU,nV u.kids.length,nV a],[aZ 1 false 0 [aW<|(s::rs).map az],aZ 1 false 0 [aH 2 b 0 c none],aZ 8 true b<|d.map aU])) (fun a _ b c=>b=c.length/\c++dq s a=[u]++dq s u.kids/\c.length+eQ a<2^30) gR (fun _ _ b c d _ _ _ e _=>Kh 0 e<|Mf<|a (b,c,d)<|by grind[mR]) fun a _ b c d e f g i j k l _ m _=>have m:=(m).trans<|congrArg some<|aO g;have:=cT (J:=fun a b=>b.2.1=b.2.2.length/\b.2.2++dq s a=[u]++dq s u.kids/\b.2.2.length+eQ a<2^30) (a:=(b,c,d)) k f;have:=aN e k;have e:d.length+nU g<2^30:=(by grind[bf]);Kt 0 l<|Mx m<|K1 4 (.frz 3 [1,10,11,12,16,17]) (ju (tR 8 true b 3<|aX gT d) rt rt ti)<|Mq (Hs s rs g b c d oA e) fun b _=>Kl 0 19 (dB a)<|Kf 0<|j b.1 b.2.1 b.2.2<|by grind[bf,gu,mn]
  · rw[hc]at hp
    have hne:dq s u.kids≠[]:=fun e=>by
      simp_all
    exact qY Tryz.func109 fun a=>K1 2 (.frz 2 [1,2,6,7]) (co rt rt ti)<|Me (CP s rs u hc)<|Kl 2 11 (ln aU u.kids)<|Mg 0<|mQ Nat Nat (List TUnit) aU u.kids [1,10,11,12] (fun a _=>([bV (bK 110) [] [bX 0 0 0 0,bX 1 0 0 0],aW<|u.kids.map aU,nV u.kids.length,nV a],[aZ 1 false 0 [aW<|(s::rs).map az],aZ 1 false 0 [ak]])) (fun a _ b c d=>([bV (bK 110) [] [bX 0 0 0 0,bX 1 0 0 0],aW<|u.kids.map aU,nV u.kids.length,nV a],[aZ 1 false 0 [aW<|(s::rs).map az],aZ 1 false 0 [aH 2 b 0 c none],aZ 8 true b<|d.map aU])) (fun a=>a≠[]/\dq s a=dq s u.kids) (fun a _ b c=>b=c.length/\c++dq s a=dq s u.kids/\c.length+eQ a<2^30) (by(exact⟨K9 rfl hne,rfl⟩)) (fun _ _ _ _ _ _ _=>Mw .abs (sA:False)) (fun a _ b c d f g i j k _ l _=>have l:=(l).trans<|congrArg some<|aO d;have:=cT (J:=fun a _=>a≠[]/\dq s a=dq s u.kids) (a:=()) j c;have c:=aN b j;have m:=bH (oM<|ig<|aN b j) hn;have:nU d+eQ f<=2^20:=(by have z:=o6 b j;omega);Kt 0 k<|Mx l<|K1 4 (.frz 2 [1,10,11,12,16,17]) (co rt rt ti)<|Ms (ll s d).isEmpty (fun b=>Me (Ht s rs d m b)<|Kl 0 19 (dB a)<|Kf 0<|g<|by(have e:dq s f=dq s u.kids:=(by grind[gu]);exact⟨K9 e hne,e⟩)) fun b=>Mq (ih d c m b) fun b _=>Kl 0 19 (dB a)<|Kf 0<|i b.1 b.2.1 b.2.2<|by grind[gu,mn]) (fun _ _ b c d _ _ _ f g=>Kh 0 f<|Mf<|a (b,c,d)<|by(refine⟨g.1,?_⟩;have:=g.2.1;rw[mR,ej]at this;simp_all)) fun a _ b c d f g i j _ k l m _ n _=>have n:=(n).trans<|congrArg some<|aO i;have:=cT (J:=fun a b=>b.2.1=b.2.2.length/\b.2.2++dq s a=dq s u.kids/\b.2.2.length+eQ a<2^30) (a:=(b,c,d)) l g;have:=aN f l;have:=bH (oM<|ig<|aN f l) hn;have:nU i+eQ j<=2^20:=(by have z:=o6 f l;omega);Kt 0 m<|Mx n<|K1 4 (.frz 3 [1,10,11,12,16,17]) (ju (tR 8 true b 3<|aX gT d) rt rt ti)<|Mq (Hs s rs i b c d oA<|by grind[bf]) fun b _=>Kl 0 19 (dB a)<|Kf 0<|k b.1 b.2.1 b.2.2<|by grind[gu,mn]
theorem UA(u:TUnit)(hb:kH []=true):kP 74 [eU u,.ls (([]:List PStep).map az)] (.ls ((dO u []).map aU)):=by
  have hv:=u0 [] (by simp) (fun s h=>by grind)
  rw[G7 hb]
  have rr0 b' (h:(List.map aU [u])=b':=by(rw[eb,aO];rfl)):=h;let q:=[av [iV u.act,iV u.item,iV u.n,iV u.kind,ax u.label,aW (u.head.map aQ),aW (u.words.map aQ),aW (u.kids.map aU)]];exact bB Tryz.func74<|Kp 3 hv<|Kf 10 (Le.lsp (rr0 q)<|by rfl:Le _ (AV.ps q true))
def HQ(u:TUnit)(s:PStep)(rs:List PStep)(z1000:List TUnit):Prop:=dO u (s::rs)=gy rs z1000/\eQ z1000<=2^22
noncomputable def G9(u:TUnit)(s:PStep)(rs:List PStep)(z1000:List TUnit):List AV×List AObj:=([AV.ptr 0 0 0 0,AV.ptr 1 0 0 0],[AObj.row 1 false 0 [AV.ls ((s::rs).map az)],AObj.row 1 false 0 [AV.ls (z1000.map aU)]])
theorem Rx(u:TUnit)(s:PStep)(rs:List PStep)(hn:nU u<=2^11)(hl:(s::rs).length<2^40)(hs:∀x,x∈s::rs->x.label.length<=2^39):kP 74 [eU u,.ls ((s::rs).map az)] (.ls ((dO u (s::rs)).map aU)):=by
  have hv:=u0 (s::rs) hl hs
  have hk:=IX s
  have hpb:=Gy s u fun x hx=>dA hx
  have hpm:nU u*nU u<=2^11*2^11:=Nat.mul_le_mul hn hn
  have hd:((s::rs).drop 1).length=rs.length:=rfl
  have rr0 b' (h:((dO u (s::rs)).map aU)=b':=by first|rfl|(rw[Jf ‹_›];rfl)|(rw[hj0.1,Is])):=h;exact bB Tryz.func74<|Kp 3 hv<|Kn 0 (kH<|s::rs) (fun _=>Kf 0 (Le.lsn<|rr0 []:Le _ (ak))) fun _=>Mg 0<|Mj (List TUnit) [3,5] (G9 u s rs) (HQ u s rs) (fun a=>Kl 1 21 (ln az<|s::rs)<|Kp 5 hk<|Kb 0 (ab s.kind 0&&dP s.label []) (fun _=>Kl 1 31 (Le.lsp (t:=true) (Eq.symm<|T9 (f:=aU) (g:=Go.Ev.eU) (ws:=[u]) aO) (aJ 0:aq ([av [iV u.act,iV u.item,iV u.n,iV u.kind,ax u.label,aW (u.head.map aQ),aW (u.words.map aQ),aW (u.kids.map aU)]])=0))<|Mg 0<|M0 (.ren [1,2,0] [] [3,5])<|M1 (.frz 2 [3,5]) (co rt rt ti)<|Mf<|a [u] (by exact⟨G8 (by omega) (by assumption),by grind[bf,ma]⟩:dO u (s::rs)=gy rs [u]/\eQ [u]<=2^22)) fun _=>Mg 1<|M0 (.ren [1,2,0] [] [3,5,16,17])<|M1 (.frz 2 [3,5,16,17]) (co rt rt ti)<|Ms (ll s u).isEmpty (fun b=>Me (Ht s rs u oA b)<|M1 (.obw 1<|aW []) (WG bA rfl rfl)<|Mf<|a [] (by exact⟨by rw[wR (by omega) (by assumption),List.isEmpty_iff.1 b],by grind⟩:dO u (s::rs)=gy rs []/\eQ []<=2^22)) fun b=>Mq (RG s rs u oA b) fun b c=>M2 (.fzo 1 2 [3,5]<|b.2.2.map aU) (co rt rt ti) (co (aJ b.1) (tA aU b.2.2 b.2.1 (oA:(b.2.2).length=b.2.1))<|aX gT b.2.2)<|Mf<|a b.2.2 (by exact⟨by rw[wR (by omega) (by assumption),c.2],by grind⟩:dO u (s::rs)=gy rs b.2.2/\eQ b.2.2<=2^22)) fun a b=>have:dO u (s::rs)=gy rs a/\eQ a<=2^22:=b;K1 0 (.slp<|((s::rs).drop 1).map az) (co (hM 2 az (s::rs) fun _=>rfl) (et (sA:1<=((s::rs).map az).length) (oA:((s::rs).map az).length<=((s::rs).map az).length))<|Yr (f:=az) (l:=s::rs) (k:=1))<|Kl 0 34 (ln az<|List.drop 1<|s::rs)<|Mg 0<|M0 (.ren [1,0] [] [5,33,34,35])<|M1 (.frz 1 [5,33,34,35]) (et rt ti)<|OM az (List.drop 1<|s::rs) a [5,33,34,35] (fun a _ b=>([bX 0 0 0 0,aW<|((s::rs).drop 1).map az,nV ((s::rs).drop 1).length,nV a],[aZ 1 false 0 [aW<|b.map aU]])) (fun a b=>dO u (s::rs)=gy a b/\eQ b<=2^22) sA (fun _ _ a _ _ _ b hj0=>Kh 0 b<|Kf 1<|cY<|rr0<|a.map aU) fun a _ b _ _ c d e _ f _ g hj0=>have:b.length<=eQ b:=x8 _;Kt 0 f<|Mx g<|Kl 5 40 (ln aU b)<|Mg 0<|mQ Nat Nat (List TUnit) aU b [5,7,8,33,34,35,39,40,41] (fun d _=>([bX 0 0 0 0,bX 1 0 0 0,ak,aW<|((s::rs).drop 1).map az,nV ((s::rs).drop 1).length,nV a,aW<|b.map aU,nV b.length,nV d],[aZ 1 false 0 [aW<|b.map aU],aZ 2 false 0 [av [iV c.kind,ax c.label]]])) (fun d _ e f g=>([bX 0 0 0 0,bX 1 0 0 0,aH 2 e 0 f none,aW<|((s::rs).drop 1).map az,nV ((s::rs).drop 1).length,nV a,aW<|b.map aU,nV b.length,nV d],[aZ 1 false 0 [aW<|b.map aU],aZ 2 false 0 [av [iV c.kind,ax c.label]],aZ 8 true e<|g.map aU])) (fun a=>cn c a=cn c b) (fun a _ d e=>d=e.length/\e++cn c a=cn c b/\e.length+eQ a<2^30) (by rfl) (fun _ _ _ _ _ b c=>Kh 0 b<|Kl 0 61 bA<|Kl 1 62 (dB a)<|K1 0 (.frz 1 [5,33,34,35]) (et rt ti)<|Mf<|e []<|by exact fA hj0 c) (fun d _ e f g i j k l n _ o _=>have p:=(o).trans<|congrArg some<|aO g;have:=cT (J:=fun a _=>cn c a=cn c b) (a:=()) l f;have:nU g+eQ i<=eQ b:=o6 e l;have:g.kids.length<nU g:=bg g;have:nU g=1+eQ g.kids:=jQ g;Kt 0 n<|Mx p<|Kl 5 47 (ln aU g.kids)<|K1 0 (.frz 2 [5,7,8,33,34,35,39,40,41,46,47,48]) (co rt rt ti)<|mQ Nat Nat (List TUnit) aU g.kids [5,7,8,33,34,35,39,40,41,46,47,48] (fun e _=>([bX 0 0 0 0,bX 1 0 0 0,ak,aW<|((s::rs).drop 1).map az,nV ((s::rs).drop 1).length,nV a,aW<|b.map aU,nV b.length,nV d,aW<|g.kids.map aU,nV g.kids.length,nV e],[aZ 1 false 0 [aW<|b.map aU],aZ 2 false 0 [av [iV c.kind,ax c.label]]])) (fun e _ f i j=>([bX 0 0 0 0,bX 1 0 0 0,aH 2 f 0 i none,aW<|((s::rs).drop 1).map az,nV ((s::rs).drop 1).length,nV a,aW<|b.map aU,nV b.length,nV d,aW<|g.kids.map aU,nV g.kids.length,nV e],[aZ 1 false 0 [aW<|b.map aU],aZ 2 false 0 [av [iV c.kind,ax c.label]],aZ 8 true f<|j.map aU])) (fun a=>List.filter (bu c) a++cn c i=cn c b) (fun a _ d e=>d=e.length/\e++(List.filter (bu c) a++cn c i)=cn c b/\e.length+(eQ a+eQ i)<2^30) (by simp_all[gA]) (fun _ _ _ _ _ a _=>Kh 0 a<|Kl 0 60 (dB d)<|Kf 0<|j sA) (fun a _ d e f j k l n p _ o _=>have o:=(o).trans<|congrArg some<|aO f;have:=cT (J:=fun a _=>List.filter (bu c) a++cn c i=cn c b) (a:=()) n e;have:nU f+eQ j<=eQ g.kids:=o6 d n;Kt 0 p<|Mx o<|Kp 4 (lW f c)<|Mb (bu c f) (fun _=>K1 3 (.obj 3<|aZ 8 true 0<|List.map aU [f]) (congrArg (aZ 8 true 0)<|T9 (f:=aU) (g:=Go.Ev.eU) (ws:=[f]) aO)<|Kl 1 59 (dB a)<|K1 0 (.ren [0,1,3,2] [3] [5,7,8,33,34,35,39,40,41,46,47,48]) (tS 8 true 0<|aX gT [f])<|M1 (.frz 3 [5,7,8,33,34,35,39,40,41,46,47,48]) (ju (tR 8 true 0 3<|aX gT [f]) rt rt ti)<|Mf<|l 0 1 [f] gR) fun _=>Kl 0 59 (dB a)<|K1 0 (.frz 2 [5,7,8,33,34,35,39,40,41,46,47,48]) (co rt rt ti)<|Mf<|k sA) (fun _ _ a e f _ _ _ g _=>Kh 0 g<|Kl 0 60 (dB d)<|Kf 0<|k a e f gR) fun a _ d e f j k l n _ p q r _ o _=>have o:=(o).trans<|congrArg some<|aO l;have k:=cT (J:=fun a d=>d.2.1=d.2.2.length/\d.2.2++(List.filter (bu c) a++cn c i)=cn c b/\d.2.2.length+(eQ a+eQ i)<2^30) (a:=(d,e,f)) q k;have:nU l+eQ n<=eQ g.kids:=o6 j q;Kt 0 r<|Mx o<|Kp 4 (lW l c)<|Mb (bu c l) (fun _=>K1 2 .app (co (aJ d) (sA:e=(f.map aU).length) (by(refine aD (m:=2^31) ?_ ?_ ?_<;>omega):small (e+1) 120=true))<|M1 (.obj 2<|aZ 8 true (d+1)<|(f++[l]).map aU) (congrArg (aZ 8 true<|d+1)<|yQ (f:=aU) (g:=Go.Ev.eU) (l:=f) (ws:=[l]) aO)<|Kl 1 59 (dB a)<|K1 0 (.frz 3 [5,7,8,33,34,35,39,40,41,46,47,48]) (ju (tR 8 true (d+1) 3<|aX gT<|f++[l]) rt rt ti)<|Mf<|p (d+1) (e+1) (f++[l])<|by exact hB1 k (by omega)) fun _=>Kl 0 59 (dB a)<|K1 0 (.frz 3 [5,7,8,33,34,35,39,40,41,46,47,48]) (ju (tR 8 true d 3<|aX gT f) rt rt ti)<|Mf<|p d e f<|by exact hB0 k (by omega)) (fun _ _ b c f _ _ _ g i=>let j:=List.map aU f;Kh 0 g<|Mg 0<|M2 (.fsl 2 [5,33,34,35] 61 j) (co rt rt ti) (co (aJ b) (tA aU f c (oA:(f).length=c))<|aX gT f)<|Ml 61 (fw j false<|aX gT f)<|Kl 1 62 (dB a)<|K1 0 (.frz 1 [5,33,34,35]) (et rt ti)<|Mf<|e f<|by exact fB hj0 i.2.1) fun d _ e f g i j k l _ n o p _ q _=>have r:=(q).trans<|congrArg some<|aO k;have j:=cT (J:=fun a d=>d.2.1=d.2.2.length/\d.2.2++cn c a=cn c b/\d.2.2.length+eQ a<2^30) (a:=(e,f,g)) o j;have:nU k+eQ l<=eQ b:=o6 i o;have:k.kids.length<nU k:=bg k;have:nU k=1+eQ k.kids:=jQ k;Kt 0 p<|Mx r<|Kl 5 47 (ln aU k.kids)<|K1 0 (.frz 3 [5,7,8,33,34,35,39,40,41,46,47,48]) (ju (tR 8 true e 3<|aX gT g) rt rt ti)<|Vn aU k.kids e f g [5,7,8,33,34,35,39,40,41,46,47,48] (fun e _ f g i=>([bX 0 0 0 0,bX 1 0 0 0,aH 2 f 0 g none,aW<|((s::rs).drop 1).map az,nV ((s::rs).drop 1).length,nV a,aW<|b.map aU,nV b.length,nV d,aW<|k.kids.map aU,nV k.kids.length,nV e],[aZ 1 false 0 [aW<|b.map aU],aZ 2 false 0 [av [iV c.kind,ax c.label]],aZ 8 true f<|i.map aU])) (fun a _ d e=>d=e.length/\e++(List.filter (bu c) a++cn c l)=cn c b/\e.length+(eQ a+eQ l)<2^30) (by(exact gB j)) (fun _ _ a e f _ _ _ g _=>Kh 0 g<|Kl 0 60 (dB d)<|Kf 0<|n a e f gR) fun a _ d e f g i j n o p r _ q _=>have q:=(q).trans<|congrArg some<|aO j;have i:=cT (J:=fun a d=>d.2.1=d.2.2.length/\d.2.2++(List.filter (bu c) a++cn c l)=cn c b/\d.2.2.length+(eQ a+eQ l)<2^30) (a:=(d,e,f)) p i;have:nU j+eQ n<=eQ k.kids:=o6 g p;Kt 0 r<|Mx q<|Kp 4 (lW j c)<|Mb (bu c j) (fun _=>K1 2 .app (co (aJ d) (sA:e=(f.map aU).length) (by(refine aD (m:=2^31) ?_ ?_ ?_<;>omega):small (e+1) 120=true))<|M1 (.obj 2<|aZ 8 true (d+1)<|(f++[j]).map aU) (congrArg (aZ 8 true<|d+1)<|yQ (f:=aU) (g:=Go.Ev.eU) (l:=f) (ws:=[j]) aO)<|Kl 1 59 (dB a)<|K1 0 (.frz 3 [5,7,8,33,34,35,39,40,41,46,47,48]) (ju (tR 8 true (d+1) 3<|aX gT<|f++[j]) rt rt ti)<|Mf<|o (d+1) (e+1) (f++[j])<|by exact hB1 i (by omega)) fun _=>Kl 0 59 (dB a)<|K1 0 (.frz 3 [5,7,8,33,34,35,39,40,41,46,47,48]) (ju (tR 8 true d 3<|aX gT f) rt rt ti)<|Mf<|o d e f<|by exact hB0 i (by omega)
theorem Uu(u:TUnit)(p:List PStep)(hn:nU u<=2^11)(hl:p.length<2^40)(hs:∀x,x∈p->x.label.length<=2^39):kP 74 [eU u,.ls (p.map az)] (.ls ((dO u p).map aU)):=by
  cases p with
  |nil=>exact UA u rfl
  |cons s rs=>grind[Rx]
theorem N2(u:TUnit)(p:List PStep)(L:List TUnit)(hf:kP 74 [eU u,.ls (p.map az)] (.ls (L.map aU)))(hL:L.length<=2^22):kP 39 [eU u,.ls (p.map az)] (.ls ((L.map aI).map aV)):=by
  have rr0 b' (h:((L.map aI).map aV)=b':=by first|rfl|(rw[<-hj0];rfl)|(rw[<-hj0.2.2.1];simp)):=h;exact bB Tryz.func39<|Kp 4 hf<|Kl 0 11 (ln aU L)<|K1 0 (.frz 0 [5,10,11,12]) ti<|mQ Nat Nat (List PId) aU L [5,10,11,12] (fun a _=>([ak,aW<|L.map aU,nV L.length,nV a],[])) (fun a _ b c d=>([aH 0 b 0 c none,aW<|L.map aU,nV L.length,nV a],[aZ 3 true b<|d.map aV])) (fun a=>a=L) (fun a _ b c=>b=c.length/\(0:Nat)<c.length/\c++List.map aI a=List.map aI L/\c.length+a.length=L.length) (by rfl) (fun _ _ _ _ _ a hj0=>Kh 0 a<|Kf 1 (Le.lsn<|rr0 []:Le _ (ak))) (fun a _ _ b c d _ e f g _ i _=>have i:=(i).trans<|congrArg some<|aO c;have hj0:=cT (J:=fun a _=>a=L) (a:=()) f b;Kt 0 g<|Mx i<|Kl 9 21 (iT a)<|Mg 0<|M0 (.ren [1,0] [] [5,10,11,12])<|M1 (.frz 1 [5,10,11,12]) (et rt ti)<|Mf<|e 0 1 [PId.mk c.act c.item c.n]<|by(refine⟨rfl,by simp,?_,?_⟩<;>(rw[<-hj0])<;>(first|rfl|grind))) (fun _ _ a b c _ _ _ d hj0=>Kh 0 d<|Mg 1<|M2 (.fsl 0 [] 4<|c.map aV) ti (co (aJ a) (tA aV c b (oA:(c).length=b))<|aX JD c)<|Ml 4 (fw (c.map aV) false<|aX JD c)<|Mf<|cY<|rr0<|c.map aV) fun a _ b c d _ e f g _ i j k _ l _=>have l:=(l).trans<|congrArg some<|aO f;have hj0:=cT (J:=fun a b=>b.2.1=b.2.2.length/\(0:Nat)<b.2.2.length/\b.2.2++List.map aI a=List.map aI L/\b.2.2.length+a.length=L.length) (a:=(b,c,d)) j e;Kt 0 k<|Mx l<|K1 6 .app (co (aJ b) (sA:c=(d.map aV).length) (by(refine aD (m:=2^25) ?_ ?_ ?_<;>omega):small (c+1) 24=true))<|M1 (.obj 0<|aZ 3 true (b+1)<|(d++[PId.mk f.act f.item f.n]).map aV) (congrArg (aZ 3 true<|b+1)<|dw (f:=aV) (l:=d) (ws:=[PId.mk f.act f.item f.n]))<|Kl 1 21 (iT a)<|K1 0 (.frz 1 [5,10,11,12]) (et (tR 3 true (b+1) 1<|aX JD<|d++[PId.mk f.act f.item f.n]) ti)<|Mf<|i (b+1) (c+1) (d++[PId.mk f.act f.item f.n])<|by(refine⟨by simp_all,by simp,?_,?_⟩<;>first|(rw[<-hj0.2.2.1,eb,jj];rfl)|(rw[<-hj0.2.2.1];simp;done)|grind)
theorem NT(u:TUnit)(p:List PStep)(hf:kP 39 [eU u,.ls (p.map az)] (.ls (([]:List PId).map aV))):kP 14 [eU u,.ls (p.map az)] (.tuple [aV bM,iV 7]):=by
  exact bB Tryz.func14<|Kp 4 hf<|Kf 8<|bx<|b8 [av [iV 0,iV 0,iV 0],iV 7]
theorem N1(u x:TUnit)(p:List PStep)(hf:kP 39 [eU u,.ls (p.map az)] (.ls ([aI x].map aV))):kP 14 [eU u,.ls (p.map az)] (.tuple [aV (aI x),iV 0]):=by
  exact bB Tryz.func14<|Kp 4 hf<|Kf 13<|bx<|b8 [av [iV (aI x).a,iV (aI x).i,iV (aI x).n],iV 0]
theorem N0(u:TUnit)(p:List PStep)(a b:PId)(r:List PId)(hf:kP 39 [eU u,.ls (p.map az)] (.ls ((a::b::r).map aV))):kP 14 [eU u,.ls (p.map az)] (.tuple [aV bM,iV 8]):=by
  have q1:ab (Int.ofNat (r.length+1+1)) 0=false:=rfl
  have q2:ab (Int.ofNat (r.length+1+1)) 1=false:=rfl
  exact bB Tryz.func14<|Kp 4 hf<|Kl 2 11 (ln aV<|a::b::r)<|Kf 8<|bx<|b8 [av [iV 0,iV 0,iV 0],iV 8]
theorem NS(u:TUnit)(p:List PStep)(hf:kP 74 [eU u,.ls (p.map az)] (.ls ((dO u p).map aU)))(hn:nU u<=2^11):kP 14 [eU u,.ls (p.map az)] (.tuple [aV (ar u p).1,iV (ar u p).2]):=by
  have ha:=N2 u p (dO u p) hf (Je p hn)
  cases e:dO u p with
  |nil=>grind[HV,NT]
  | cons x r=>
    cases r with
    |nil=>grind[HK,N1]
    |cons y r=>grind[HJ,N0]
noncomputable abbrev zU:AV:=.agg [iV 0,iV 0,iV 0,iV 0,.str [],.nils,.nils,.nils]
noncomputable abbrev dD(xs:List AV):AObj:=.row 8 false 0 xs
theorem UT{L Z:List AV}{n i:Nat}(hn:L.length=n)(hi:i<n):((L++Z).drop (i+1)).take (n-(i+1))=L.drop (i+1):=by
  grind
theorem U0{L Z:List AV}{n i:Nat}(hn:L.length=n)(hi:i<n):bF (L++Z) (0+i) (L.drop (i+1))=L.eraseIdx i++(L.drop (n-1)++Z):=by
  unfold bF
  grind
theorem Et{L Z:List AV}{z:AV}{n i:Nat}(hn:L.length=n)(hi:i<n):bF (L.eraseIdx i++(L.drop (n-1)++Z)) (n-1) (List.replicate 1 z)=L.eraseIdx i++(z::Z):=by
  unfold bF
  have h1:(L.eraseIdx i).length=n-1:=by grind
  have h2:(L.drop (n-1)).length=1:=by grind
  grind
theorem YT{a b:Nat}(h:a≠b):ab (Int.ofNat a) (Int.ofNat b)=false:=by
  grind[nH]
theorem RR(L Z:List AV)(n k i:Nat)(hi:i+1<n)(hn:L.length=n)(hs:n<=2^20)(hf:dr 8 L=true)(hZ:Z.length=k)(hT:aq (L++Z)=0):kD 248 [.slice 0 0 0 n (some (n+k)),nV i,nV (i+1)] (aa [dD (L++Z)]) (.slice 0 0 0 (n-1) (some (n+k))) (aa [dD (L.eraseIdx i++(zU::Z))]):=by
  have hq:ab (Int.ofNat i) (Int.ofNat (i+1))=false:=YT (by omega)
  let q:=AHeap.mk 1000000 (bC (aa [aZ 8 false 0 (L++Z)]) ([0]) Tr.nil);let q1:=aa [aZ 8 false 0 (L.eraseIdx i++(L.drop (n-1)++Z))];let q2:=aa [aZ 8 false 0 (L++Z)];let q3:=(some (aH 0 0 0 n (some (n+k))));let q4:=aH 0 0 (i+1) (n-(i+1)) (some (n+k-(i+1)));let q5:=(some (nV (i+1)));let q6:=(some (nV i));let q7:=(some (nV n));let q8:=AHeap.mk 1 (bC q2 ([0,0]) Tr.nil);let q9:=aH 0 0 0 (n-1) (some (n+k));let q10:=aH 0 0 (n-1) 1 (some (k+1));let q11:=aH 0 0 0 i (some (n+k));exact fu Tryz.func248 fun a=>Ko 5 (by exact DA (xs:=L++Z) (l:=i) (h:=i+1) (m:=n) (by kernel_rfl) (by rfl) (by rfl) (by rfl) (by omega) (by omega) (by omega) (by omega) (by omega) (by omega) (by omega):bj q2 (dY (8) q2 q3 q6 q5 q7)=some (ARes.val (AV.slice 0 0 i 1 (some (n-i))) q2))<|Kh 2 hq<|Kv 4 (by exact iW (xs:=L++Z) (l:=0) (h:=i) (by kernel_rfl) (by rfl) (by rfl) (by omega) (by omega) (by omega) (by omega) (by omega) (by omega):bj (q) (dY (8) (q) q3 (none) q6 (none))=some (ARes.val q11 q))<|Kv 1 (by exact iW (xs:=L++Z) (l:=i+1) (h:=n) (by kernel_rfl) (by rfl) (by rfl) (by omega) (by omega) (by omega) (by omega) (by omega) (by omega):bj (q) (dY (8) (q) q3 q5 (none) (none))=some (ARes.val q4 q))<|Md rt (iY (tR 8 false 0 1 (oA:aq (L++Z)=0))<|iY (tR 8 false 0 1 (oA:aq (L++Z)=0)) rt) (by exact MY (new:=L.drop (i+1)) rfl (yR rfl (UT hn (by omega))) (rg hf) (fun e=>by have:=congrArg List.length e;grind) (by grind) (by grind) (aD (m:=2^20) (by grind) (by omega) (by omega)) (by grind) (U0 hn (by omega)):fK (da (8) (120) (q8) ((some q11)) ((some q4)))=some (ARes.val q9 (AHeap.put q8 0 (AObj.row 8 false 0 (L.eraseIdx i++(L.drop (n-1)++Z))))))<|Ko 4 (by exact iW (xs:=L.eraseIdx i++(L.drop (n-1)++Z)) (l:=n-1) (h:=n) (by kernel_rfl) (by rfl) (by rfl) (by omega) (by omega) (by omega) (by omega) (by omega) (by omega):bj q1 (dY (8) q1 ((some q9)) ((some (nV (n-1)))) q7 (none))=some (ARes.val q10 q1))<|Mo (by exact Eu rfl (by kernel_rfl) (Et hn (by omega)):fK (v8 (8) (AV.agg [iV 0,iV 0,iV 0,iV 0,AV.str [],AV.nils,AV.nils,AV.nils]) q1 ((some q10)))=some (ARes.val (AV.tuple []) (aa [AObj.row 8 false 0 (L.eraseIdx i++zU::Z)])))<|Kf 1 a
theorem RP(L Z:List AV)(k i:Nat)(hn:L.length=i+1)(hs:i<2^20)(hk:0<k)(hZ:Z.length=k)(hT:aq (L++Z)=0):kD 248 [.slice 0 0 0 (i+1) (some (i+1+k)),nV i,nV (i+1)] (aa [dD (L++Z)]) (.slice 0 0 0 i (some (i+1+k))) (aa [dD (L.eraseIdx i++(zU::Z))]):=by
  have hq:ab (Int.ofNat i) (Int.ofNat (i+1))=false:=YT (by omega)
  have hr:L.eraseIdx i++(L.drop (i+1-1)++Z)=L++Z:=by
    rw[ON,BF (by omega),ej,<-jj,show i+1-1=i from rfl,KQ]
  have hc:bF (L++Z) i (List.replicate 1 zU)=L.eraseIdx i++(zU::Z):=by
    have h:=Et (z:=zU) (Z:=Z) hn (show i<i+1 by omega)
    grind
  let q:=aa [aZ 8 false 0 (L++Z)];let q1:=AHeap.mk 1000000 (bC q ([0]) Tr.nil);let q2:=(some (nV (i+1)));let q3:=aH 0 0 0 i (some (i+1+k));let q4:=(some (aH 0 0 0 (i+1) (some (i+1+k))));let q5:=(some (nV i));let q6:=AHeap.mk 1 (bC q ([0,0]) Tr.nil);let q7:=aH 0 0 (i+1) 0 (some k);let q8:=aH 0 0 i 1 (some (k+1));exact fu Tryz.func248 fun a=>Ko 5 (by exact DA (xs:=L++Z) (l:=i) (h:=i+1) (m:=i+1) (by kernel_rfl) (by rfl) (by rfl) (by rfl) (by omega) (by omega) (by omega) (by omega) (by omega) (by omega) (by omega):bj q (dY (8) q q4 q5 q2 q2)=some (ARes.val (AV.slice 0 0 i 1 (some 1)) q))<|Kh 2 hq<|Kv 4 (by exact iW (xs:=L++Z) (l:=0) (h:=i) (by kernel_rfl) (by rfl) (by rfl) (by omega) (by omega) (by omega) (by omega) (by omega) (by omega):bj (q1) (dY (8) (q1) q4 (none) q5 (none))=some (ARes.val q3 q1))<|Kv 1 (by exact iW (xs:=L++Z) (l:=i+1) (h:=i+1) (by kernel_rfl) (by rfl) (by rfl) (by omega) (by omega) (by omega) (by omega) (by omega) (by omega):bj (q1) (dY (8) (q1) q4 q2 (none) (none))=some (ARes.val q7 q1))<|Md rt (iY (tR 8 false 0 1 (oA:aq (L++Z)=0))<|iY (tR 8 false 0 1 (oA:aq (L++Z)=0)) rt) (by exact Sf (yR rfl List.take_zero):fK (da (8) (120) (q6) ((some q3)) ((some q7)))=some (ARes.val q3 q6))<|Ko 4 (by exact iW (xs:=L++Z) (l:=i) (h:=i+1) (by kernel_rfl) (by rfl) (by rfl) (by omega) (by omega) (by omega) (by omega) (by omega) (by omega):bj q (dY (8) q ((some q3)) q5 q2 (none))=some (ARes.val q8 q))<|Mo (by exact Eu rfl (by kernel_rfl) hc:fK (v8 (8) (AV.agg [iV 0,iV 0,iV 0,iV 0,AV.str [],AV.nils,AV.nils,AV.nils]) q ((some q8)))=some (ARes.val (AV.tuple []) (aa [AObj.row 8 false 0 (L.eraseIdx i++zU::Z)])))<|Kf 1 a
theorem RO(L:List AV)(i:Nat)(hn:L.length=i+1)(hs:i<2^20)(hT:aq L=0):kD 248 [.slice 0 0 0 (i+1) (some (i+1)),nV i,nV (i+1)] (aa [dD L]) (.slice 0 0 0 i (some (i+1))) (aa [dD (L.eraseIdx i++[zU])]):=by
  have hq:ab (Int.ofNat i) (Int.ofNat (i+1))=false:=YT (by omega)
  have hr:L.eraseIdx i++(L.drop (i+1-1)++[])=L:=by
    rw[ON,BF (by omega),ej,ej,show i+1-1=i from rfl,KQ]
  have hc:bF L i (List.replicate 1 zU)=L.eraseIdx i++[zU]:=by
    have h:=Et (z:=zU) (Z:=[]) hn (show i<i+1 by omega)
    grind
  let q:=aa [aZ 8 false 0 L];let q1:=AHeap.mk 1000000 (bC q ([0]) Tr.nil);let q2:=(some (nV (i+1)));let q3:=aH 0 0 0 i (some (i+1));let q4:=(some (aH 0 0 0 (i+1) (some (i+1))));let q5:=(some (nV i));let q6:=aH 0 0 i 1 (some 1);let q7:=AHeap.mk 1 (bC q ([0,0]) Tr.nil);let q8:=aH 0 0 0 0 (some 0);exact fu Tryz.func248 fun a=>Ko 5 (by exact DA (xs:=L) (l:=i) (h:=i+1) (m:=i+1) (by kernel_rfl) (by rfl) (by rfl) (by rfl) (by omega) (by omega) (by omega) (by omega) (by omega) (by omega) (by omega):bj q (dY (8) q q4 q5 q2 q2)=some (ARes.val q6 q))<|Kh 2 hq<|Kv 4 (by exact iW (xs:=L) (l:=0) (h:=i) (by kernel_rfl) (by rfl) (by rfl) (by omega) (by omega) (by omega) (by omega) (by omega) (by omega):bj (q1) (dY (8) (q1) q4 (none) q5 (none))=some (ARes.val q3 q1))<|Kv 1 (by exact KH (xs:=L) (l:=i+1) (h:=i+1) (by kernel_rfl) (by rfl) (by rfl) (by rfl) rfl:bj (q1) (dY (8) (q1) q4 q2 (none) (none))=some (ARes.val q8 q1))<|Md rt (iY (tR 8 false 0 1 (oA:aq (L)=0))<|iY (tR 8 false 0 1 (oA:aq (L)=0)) rt) (by exact Sf (yR rfl List.take_zero):fK (da (8) (120) (q7) ((some q3)) ((some q8)))=some (ARes.val q3 q7))<|Ko 4 (by exact iW (xs:=L) (l:=i) (h:=i+1) (by kernel_rfl) (by rfl) (by rfl) (by omega) (by omega) (by omega) (by omega) (by omega) (by omega):bj q (dY (8) q ((some q3)) q5 q2 (none))=some (ARes.val q6 q))<|Mo (by exact Eu rfl (by kernel_rfl) hc:fK (v8 (8) (AV.agg [iV 0,iV 0,iV 0,iV 0,AV.str [],AV.nils,AV.nils,AV.nils]) q ((some q6)))=some (ARes.val (AV.tuple []) (aa [AObj.row 8 false 0 (L.eraseIdx i++[zU])])))<|Kf 1 a
theorem RN(L Z:List AV)(n i:Nat)(hi:i<n)(hn:L.length=n)(hs:n<=2^20)(hf:dr 8 L=true)(hT:aq (L++Z)=0):kD 248 [.slice 0 0 0 n (some (n+Z.length)),nV i,nV (i+1)] (aa [dD (L++Z)]) (.slice 0 0 0 (n-1) (some (n+Z.length))) (aa [dD (L.eraseIdx i++(zU::Z))]):=by
  rcases eT (i+1) n with h|h
  · exact RR L Z n _ i h hn hs hf rfl hT
  · obtain rfl:n=i+1:=by omega
    cases Z with
    |nil=>rw[ej];rw[ej]at hT;exact RO L i hn (by omega) hT
    |cons z r=>exact RP L (z::r) _ i hn (by omega) (yb _) rfl hT
def gg(i:Nat)(x:AV)(l:List AV):List AV:=l.take i++(x::l.drop i)
theorem AK{i:Nat}{x:AV}{l:List AV}(h:i<=l.length):(gg i x l).length=l.length+1:=by
  grind[gg]
theorem GG{x:AV}{l:List AV}{n:Nat}(h:l.length=n):gg n x l=l++[x]:=by
  grind[gg]
theorem Zq(n:Nat):ab (Int.ofNat n) (Int.ofNat n)=true:=bz _
theorem aac{a b:Nat}(h:a<b):au (Int.ofNat a) (Int.ofNat b)=true:=m0 (by simp_all)
theorem aad{a b:Nat}(h:b<=a):au (Int.ofNat a) (Int.ofNat b)=false:=kq (by simp_all)
theorem UN{L Z:List AV}{x z:AV}{n:Nat}(h:L.length=n):bF (L++z::Z) (0+n) [x]=gg n x L++Z:=by
  unfold bF
  rw[GG h,f8,<-h,List.take_left,show(L++z::Z).drop (L.length+[x].length)=Z by rw[<-BL,List.drop_left];rfl]
theorem TS{L Z:List AV}{z:AV}{n i:Nat}(h:L.length=n)(hi:i<n):bF (L++z::Z) (i+1) (L.drop i)=L.take (i+1)++(L.drop i++Z):=by
  unfold bF
  rw[List.take_append_of_le_length (by omega),jj,yd,show i+1+(L.length-i)=L.length+1 by omega,<-BL,List.drop_left];rfl
theorem Qc{L Z:List AV}{x:AV}{n i:Nat}(h:L.length=n)(hi:i<n):bF (L.take (i+1)++(L.drop i++Z)) i [x]=gg i x L++Z:=by
  unfold bF gg
  grind
theorem TH{L:List AV}{z x:AV}{n i:Nat}(h:L.length=n)(hi:i<n):bF (L.take i++List.replicate (n+1-i) z) i [x]=L.take i++(x::List.replicate (n-i) z):=by
  unfold bF
  have h1:(L.take i).length=i:=by grind
  have e:n+1-i=(n-i)+1:=by omega
  rw[List.take_append_of_le_length (by omega),tW (by omega),<-BL]
  simp_all
theorem Qa{L:List AV}{z x:AV}{n i:Nat}(h:L.length=n)(hi:i<n):bF (L.take i++(x::List.replicate (n-i) z)) (i+1) (L.drop i)=gg i x L:=by
  unfold bF gg
  have h1:(L.take i).length=i:=by grind
  have h2:(L.take i++(x::List.replicate (n-i) z)).length=n+1:=by grind
  have e:(L.take i++(x::List.replicate (n-i) z)).drop (i+1+(L.drop i).length)=[]:=BF (by grind)
  grind
theorem QI(L Z:List AV)(x z:AV)(t:Bool)(n k:Nat)(hn:L.length=n)(hs:n<2^20)(hk:Z.length=k)(hx:dr 8 [x]=true):kD 176 [.slice 0 0 0 n (some (n+(k+1))),nV n,.ps [x] t] (aa [dD (L++z::Z)]) (.slice 0 0 0 (n+1) (some (n+(k+1)))) (aa [dD (gg n x L++Z)]):=by
  have hq:=Zq n
  let q:=aa [aZ 8 false 0 (L++z::Z)];exact fu Tryz.func176 fun a=>Ko 2 (by exact iW (xs:=L++z::Z) (l:=n) (h:=n) (by kernel_rfl) (by rfl) (by rfl) (by omega) (by omega) (by omega) (by omega) (by omega) (by omega):bj q (dY (8) q ((some (AV.slice 0 0 0 n (some (n+(k+1)))))) ((some (nV n))) (none) (none))=some (ARes.val (AV.slice 0 0 n 0 (some (k+1))) q))<|Kt 11 hq<|Ko 1 (by exact MY (new:=[x]) rfl (by rfl) hx (j5 _ _) (by simp_all) (by simp_all) (aD (m:=2^20) (by grind) (by omega) (by omega)) rfl (UN hn):fK (da (8) (120) (aa [AObj.row 8 false 0 (L++z::Z)]) ((some (AV.slice 0 0 0 n (some (n+(k+1)))))) ((some (AV.ps [x] t))))=some (ARes.val (AV.slice 0 0 0 (n+1) (some (n+(k+1)))) (aa [AObj.row 8 false 0 (gg n x L++Z)])))<|Kf 0 a
theorem QH(L:List AV)(x:AV)(t:Bool)(n:Nat)(hn:L.length=n)(hs:n<2^20)(hx:dr 8 [x]=true)(hT:aq L=0)(hI:aq (gg n x L)=0):kD 176 [.slice 0 0 0 n (some n),nV n,.ps [x] t] (aa [dD L]) (.ls (gg n x L)) (aa [dD L]):=by
  have hq:=Zq n
  have hIl:(gg n x L).length=n+1:=(AK (by omega)).trans (by omega)
  let q:=aa [aZ 8 false 0 L];exact fu Tryz.func176 fun a=>Ko 2 (by exact KH (xs:=L) (l:=n) (h:=n) (by kernel_rfl) (by rfl) (by rfl) (by rfl) rfl:bj q (dY (8) q ((some (AV.slice 0 0 0 n (some n)))) ((some (nV n))) (none) (none))=some (ARes.val (AV.slice 0 0 0 0 (some 0)) q))<|Kt 11 hq<|Ko 1 (by exact Vw (new:=[x]) rfl (by rfl) hx (j5 _ _) (by simp_all) (aD (m:=2^20) (by grind) (by omega) (by omega)) (by grind[GG]) ((AK (by omega)).trans (by omega)):fK (da (8) (120) (aa [AObj.row 8 false 0 L]) ((some (AV.slice 0 0 0 n (some n)))) ((some (AV.ps [x] t))))=some (ARes.val (AV.slice 1 0 0 (n+1) none) (aa [AObj.row 8 false 0 L,AObj.row 8 true 0 (gg n x L)])))<|Mg 0<|M2 (.fsl 1 [] 6<|gg n x L) (et (tR 8 false 0 1 (oA:aq (L)=0)) ti) (co (aJ 0) (VB (oA:(gg n x L).length=n+1)) (oA:aq (gg n x L)=0))<|Ml 6 (fw (gg n x L) false (oA:aq (gg n x L)=0))<|Mf a
theorem QG(L Z:List AV)(x z:AV)(t:Bool)(n k i:Nat)(hi:i<n)(hn:L.length=n)(hs:n<2^20)(hk:Z.length=k)(hx:dr 8 [x]=true)(hf:dr 8 L=true)(hT:aq (L++z::Z)=0)(hov:kD 245 [.ps [x] t,.slice 0 0 (i+1) (n-i) (some (n+(k+1)-(i+1)))] (aa [dD (L++z::Z)]) (.bool false) (aa [dD (L++z::Z)])):kD 176 [.slice 0 0 0 n (some (n+(k+1))),nV i,.ps [x] t] (aa [dD (L++z::Z)]) (.slice 0 0 0 (n+1) (some (n+(k+1)))) (aa [dD (gg i x L++Z)]):=by
  have hq:ab (Int.ofNat i) (Int.ofNat n)=false:=YT (by omega)
  have hl:au (Int.ofNat (n+(k+1))) (Int.ofNat (n+1))=false:=aad (by omega)
  let q:=aa [aZ 8 false 0 (L++z::Z)];let q1:=aa [aZ 8 false 0 (L.take (i+1)++(L.drop i++Z))];let q2:=AHeap.mk 1000000 (bC q ([0]) Tr.nil);let q3:=aH 0 0 0 (n+1) (some (n+(k+1)));let q4:=aH 0 0 i (n+1-i) (some (n+(k+1)-i));let q5:=(some (nV i));let q6:=aH 0 0 (i+1) (n-i) (some (n+(k+1)-(i+1)));let q7:=(some (nV (i+1)));let q8:=(some (aH 0 0 0 n (some (n+(k+1)))));exact fu Tryz.func176 fun a=>Ko 2 (by exact iW (xs:=L++z::Z) (l:=i) (h:=n) (by kernel_rfl) (by rfl) (by rfl) (by omega) (by omega) (by omega) (by omega) (by omega) (by omega):bj q (dY (8) q q8 q5 (none) (none))=some (ARes.val (AV.slice 0 0 i (n-i) (some (n+(k+1)-i))) q))<|Kh 11 hq<|Kl 2 28 (iT n)<|Kh 2 hl<|Kl 3 59 (iT n)<|Mo (by exact iW (xs:=L++z::Z) (l:=0) (h:=n+1) (by kernel_rfl) (by rfl) (by rfl) (by omega) (by omega) (by omega) (by omega) (by omega) (by omega):bj q (dY (8) q q8 (none) ((some (nV (n+1)))) (none))=some (ARes.val q3 q))<|Kl 5 65 (iT i)<|Mo (by exact iW (xs:=L++z::Z) (l:=i+1) (h:=n+1) (by kernel_rfl) (by rfl) (by rfl) (by omega) (by omega) (by omega) (by omega) (by omega) (by omega):bj q (dY (8) q ((some q3)) q7 (none) (none))=some (ARes.val q6 q))<|Me hov<|Mg 4<|Ma (iT i)<|Mv (by exact iW (xs:=L++z::Z) (l:=i+1) (h:=n+1) (by kernel_rfl) (by rfl) (by rfl) (by omega) (by omega) (by omega) (by omega) (by omega) (by omega):bj (q2) (dY (8) (q2) ((some q3)) q7 (none) (none))=some (ARes.val q6 q2))<|Kv 1 (by exact iW (xs:=L++z::Z) (l:=i) (h:=n+1) (by kernel_rfl) (by rfl) (by rfl) (by omega) (by omega) (by omega) (by omega) (by omega) (by omega):bj (q2) (dY (8) (q2) ((some q3)) q5 (none) (none))=some (ARes.val q4 q2))<|Md rt (iY (tR 8 false 0 1 (oA:aq (L++z::Z)=0))<|iY (tR 8 false 0 1 (oA:aq (L++z::Z)=0)) rt) (by exact L7 (zs:=((L++z::Z).drop i).take (n+1-i)) rfl (yR rfl rfl) (by grind[rg]) (by grind) (by grind[TS]):fK (uF (8) ((AHeap.mk 1 (bC (aa [AObj.row 8 false 0 (L++z::Z)]) ([0,0]) Tr.nil))) ((some (AV.slice 0 0 (i+1) (n-i) (some (n+(k+1)-(i+1)))))) ((some (AV.slice 0 0 i (n+1-i) (some (n+(k+1)-i))))))=some (ARes.val (nV (n-i)) (AHeap.put (AHeap.mk 1 (bC (aa [AObj.row 8 false 0 (L++z::Z)]) ([0,0]) Tr.nil)) 0 (AObj.row 8 false 0 (L.take (i+1)++(L.drop i++Z))))))<|Ko 1 (by exact iW (xs:=L.take (i+1)++(L.drop i++Z)) (l:=i) (h:=n+1) (by kernel_rfl) (by rfl) (by rfl) (by omega) (by omega) (by omega) (by omega) (by omega) (by omega):bj q1 (dY (8) q1 ((some q3)) q5 (none) (none))=some (ARes.val q4 q1))<|Ko 0 (by exact L7 (zs:=[x]) rfl (by rfl) (rf hx) (by grind) (by grind[List.take_of_length_le,Qc]):fK (uF (8) q1 ((some q4)) ((some (AV.ps [x] t))))=some (ARes.val (iV 1) (aa [AObj.row 8 false 0 (gg i x L++Z)])))<|Kf 1 a
theorem QF(L:List AV)(x:AV)(t:Bool)(n i:Nat)(hi:i<n)(hn:L.length=n)(hs:n<2^20)(hx:dr 8 [x]=true)(hf:dr 8 L=true)(hT:aq L=0)(hT2:aq (L.take i++(x::List.replicate (n-i) zU))=0)(hI:aq (gg i x L)=0):kD 176 [.slice 0 0 0 n (some n),nV i,.ps [x] t] (aa [dD L]) (.ls (gg i x L)) (aa [dD L]):=by
  have hq:ab (Int.ofNat i) (Int.ofNat n)=false:=YT (by omega)
  have hl:au (Int.ofNat n) (Int.ofNat (n+1))=true:=aac (by omega)
  have hIl:(gg i x L).length=n+1:=(AK (by omega)).trans (by omega)
  let q:=aa [aZ 8 false 0 L,aZ 8 true 0 (L.take i++x::List.replicate (n-i) zU)];let q1:=aa [aZ 8 false 0 L,aZ 8 true 0 (L.take i++List.replicate (n+1-i) zU)];let q2:=aa [aZ 8 false 0 L];let q3:=(some (nV i));let q4:=AHeap.mk 1000000 (bC q ([0]) Tr.nil);let q5:=aH 0 0 i (n-i) (some (n-i));let q6:=(some (aH 0 0 0 n (some n)));let q7:=AHeap.mk 2 (bC q ([1,0]) Tr.nil);let q8:=aH 1 0 i (n+1-i) none;let q9:=aH 1 0 0 (n+1) none;let q10:=aH 0 0 0 i (some n);exact fu Tryz.func176 fun a=>Ko 2 (by exact iW (xs:=L) (l:=i) (h:=n) (by kernel_rfl) (by rfl) (by rfl) (by omega) (by omega) (by omega) (by omega) (by omega) (by omega):bj q2 (dY (8) q2 q6 q3 (none) (none))=some (ARes.val q5 q2))<|Kh 11 hq<|Kl 2 28 (iT n)<|Kt 2 hl<|Ko 1 (by exact iW (xs:=L) (l:=0) (h:=i) (by kernel_rfl) (by rfl) (by rfl) (by omega) (by omega) (by omega) (by omega) (by omega) (by omega):bj q2 (dY (8) q2 q6 (none) q3 (none))=some (ARes.val q10 q2))<|Kl 2 37 (iT n)<|Ko 0 (by(show bj _ (some (AV.int .i64 (IntKind.i64.wrap (Int.ofNat (n+1)-Int.ofNat i))))=_;rw[show(Int.ofNat (n+1)-Int.ofNat i)=Int.ofNat (n+1-i) by grind,xB (by simp_all) (by grind)];rfl):bj (aa [AObj.row 8 false 0 L]) (S1 (pR BinOp.sub (Tryz.prog.underlying 3) (cG Tryz.prog 3) (cP Tryz.prog 3) (dE Tryz.prog 10 3 0)) ((some (nV (n+1)))) ((some (nV i))))=some (ARes.val (nV (n+1-i)) (aa [AObj.row 8 false 0 L])))<|Mo (by exact TP rfl (by omega) (by omega) (by kernel_rfl) (aD (m:=2^21) (by omega) (by omega) (by omega)) (aD (m:=2^21) (by omega) (by omega) (by omega)) (by simp_all) (by grind):fK (CC (8) (120) (AV.agg [iV 0,iV 0,iV 0,iV 0,AV.str [],AV.nils,AV.nils,AV.nils]) q2 ((some q10)) ((some (nV (n+1-i)))))=some (ARes.val q9 q1))<|Ko 2 (by exact Du (xs:=L.take i++List.replicate (n+1-i) zU) (l:=i) (h:=n+1) (by kernel_rfl) (by rfl) (by rfl) (by omega) (by grind) (by omega) (by omega):bj q1 (dY (8) q1 ((some q9)) q3 (none) (none))=some (ARes.val q8 q1))<|Ko 0 (by exact L7 (zs:=[x]) rfl (by rfl) (rf hx) (by grind) (by grind[List.take_of_length_le,TH]):fK (uF (8) q1 ((some q8)) ((some (AV.ps [x] t))))=some (ARes.val (iV 1) q))<|Mg 2<|Ma (iT i)<|Mv (by exact Du (xs:=L.take i++(x::List.replicate (n-i) zU)) (l:=i+1) (h:=n+1) (by kernel_rfl) (by rfl) (by rfl) (by omega) (by grind) (by omega) (by omega):bj ((AHeap.mk 1000000 (bC (aa [AObj.row 8 false 0 L,AObj.row 8 true 0 (L.take i++x::List.replicate (n-i) zU)]) ([1]) Tr.nil))) (dY (8) ((AHeap.mk 1000000 (bC (aa [AObj.row 8 false 0 L,AObj.row 8 true 0 (L.take i++x::List.replicate (n-i) zU)]) ([1]) Tr.nil))) ((some (AV.slice 1 0 0 (n+1) none))) ((some (nV (i+1)))) (none) (none))=some (ARes.val (AV.slice 1 0 (i+1) (n-i) none) (AHeap.mk 1000000 (bC (aa [AObj.row 8 false 0 L,AObj.row 8 true 0 (L.take i++x::List.replicate (n-i) zU)]) ([1]) Tr.nil))))<|Kv 1 (by exact iW (xs:=L) (l:=i) (h:=n) (by kernel_rfl) (by rfl) (by rfl) (by omega) (by omega) (by omega) (by omega) (by omega) (by omega):bj (q4) (dY (8) (q4) q6 q3 (none) (none))=some (ARes.val q5 q4))<|Md rt (iY (tR 8 true 0 2 (oA:aq (L.take i++x::List.replicate (n-i) zU)=0))<|iY (tR 8 false 0 2 (oA:aq (L)=0)) rt) (by exact L7 (zs:=L.drop i) rfl (yR rfl (tW (by simp_all))) (rf (rg hf)) (by simp_all) (by grind[List.length_drop,Qa]):fK (uF (8) (q7) ((some (AV.slice 1 0 (i+1) (n-i) none))) ((some q5)))=some (ARes.val (nV (n-i)) (AHeap.put q7 1 (AObj.row 8 true 0 (gg i x L)))))<|Mg 1<|M2 (.fsl 1 [] 6<|gg i x L) (et (tR 8 false 0 1 (oA:aq (L)=0)) ti) (co (aJ 0) (VB (oA:(gg i x L).length=n+1)) (oA:aq (gg i x L)=0))<|Ml 6 (fw (gg i x L) false (oA:aq (gg i x L)=0))<|Mf a
theorem GE(x:TUnit)(t:Bool):kP 176 [.nils,iV 0,.ps [eU x] t] (.ls [eU x]):=by
  have hx:dr 8 [eU x]=true:=by kernel_rfl
  have hIl:[eU x].length=1:=rfl
  have hI:aq [eU x]=0:=by kernel_rfl
  let q:=[av [iV x.act,iV x.item,iV x.n,iV x.kind,ax x.label,aW (x.head.map aQ),aW (x.words.map aQ),aW (x.kids.map aU)]];exact bB Tryz.func176<|Ko 18 (by(simp only[da,gk,kp,ke,gO,hx];rfl):fK (da (8) (120) (aa []) ((some (AV.nils))) ((some (AV.ps [AV.agg [iV x.act,iV x.item,iV x.n,iV x.kind,AV.str x.label,AV.ls (x.head.map aQ),AV.ls (x.words.map aQ),AV.ls (x.kids.map aU)]] t))))=some (ARes.val (AV.slice 0 0 0 1 none) (aa [AObj.row 8 true 0 [eU x]])))<|K1 0 (.frz 0 [6]) ti<|Mf (fw q _<|by rfl:Le _ (AV.ps q false))
theorem GD(x:TUnit)(t:Bool):kP 176 [.ps [] true,iV 0,.ps [eU x] t] (.ls [eU x]):=by
  have hx:dr 8 [eU x]=true:=by kernel_rfl
  have hIl:[eU x].length=1:=rfl
  have hI:aq [eU x]=0:=by kernel_rfl
  let q:=[av [iV x.act,iV x.item,iV x.n,iV x.kind,ax x.label,aW (x.head.map aQ),aW (x.words.map aQ),aW (x.kids.map aU)]];exact bB Tryz.func176<|Ko 18 (by(simp only[da,gk,kp,ke,gO,hx];rfl):fK (da (8) (120) (aa []) ((some (AV.ps [] true))) ((some (AV.ps [AV.agg [iV x.act,iV x.item,iV x.n,iV x.kind,AV.str x.label,AV.ls (x.head.map aQ),AV.ls (x.words.map aQ),AV.ls (x.kids.map aU)]] t))))=some (ARes.val (AV.slice 0 0 0 1 none) (aa [AObj.row 8 true 0 [eU x]])))<|K1 0 (.frz 0 [6]) ti<|Mf (fw q _<|by rfl:Le _ (AV.ps q false))
noncomputable def Kg:TypeInfo:=(Tryz.prog.info? 30).getD default
theorem PK:Tryz.prog.info? 30=some Kg:=by kernel_rfl
theorem YU:Le (aU bd) zU:=aM (.cons (Le.refl _) (.cons (Le.refl _) (.cons (Le.refl _) (.cons (Le.refl _) (.cons (Le.refl _) (.cons Le.nils (.cons Le.nils (.cons Le.nils .nil)))))))) rfl
theorem Im:Kg.size=8:=by kernel_rfl
theorem Fb:Kg.bytes=120:=by kernel_rfl
theorem ZY(l:List TUnit):dr 8 (l.map aU)=true:=gi (fun u=>by cases u;rfl) l
theorem EA(xs:List TUnit)(hne:xs≠[])(hl:xs.length<=2^20)(a b c:AObj):kC 244 [.ls (xs.map aU)] (aa [a,b,c])
    (fun v h=>∃k:Nat,True/\v=.slice 3 0 0 xs.length (some (xs.length+k))/\h=aa [a,b,c,dD ((xs++List.replicate k bd).map aU)]):=by
  simp only[pA,List.map_replicate]
  have hn:xs.map aU≠[]:=fun h=>hne (List.map_eq_nil_iff.1 h)
  have hf:=ZY xs
  have hsm:small (xs.map aU).length 120=true:=by grind[aD]
  have hlen:xs.length=(xs.map aU).length:=(cX ..).symm
  rw[hlen]
  generalize xs.map aU=L at hn hf hsm
  refine aF.enter 2 (fn:=Tryz.f244) Tryz.func244 (by kernel_rfl) rfl ⟨by kernel_rfl,by kernel_rfl⟩ ?_
  refine ah.seq (ah.mono (EU pG jq (ev 40) (s':=⟨dS 8 [(0,.ls L),(2,.nils)],aa [a,b,c]⟩) (.go 0 .fin) (by kernel_rfl)) ?_)
  rintro _ _ ⟨rfl,rfl⟩
  refine ah.seq (ah.seq (ah.mono (xR jq (ev 40) (Ψ:=fun s=>s=⟨dS 8 [(0,.ls L),(2,.nils),(3,.ps L false),(4,.bool false)],aa [a,b,c]⟩) (.go 0 (.nz 3 .abs (.go 0 .fin)))
    (W:=(L=[]->False)/\(⟨dS 8 [(0,.ls L),(2,.nils),(3,.ps L false),(4,.bool false)],aa [a,b,c]⟩:St)=⟨dS 8 [(0,.ls L),(2,.nils),(3,.ps L false),(4,.bool false)],aa [a,b,c]⟩) ⟨hn,rfl⟩ (by kernel_rfl)) ?_))
  rintro _ _ ⟨rfl,rfl⟩
  refine ah.cond (t:=false) (by kernel_rfl) (fun h=>by grind) fun _=>ah.skip ?_
  refine ah.seq (ah.region ?_)
  show b7 _ _ _ _ [_,_,_,_] _ _
  refine b7.one (s':=⟨dS 8 [(0,.ls L),(2,.nils),(3,.ps L false),(4,.bool false),(5,.ps [] true)],aa [a,b,c]⟩) (ev 40) (by kernel_rfl) ?_
  refine b7.one (s':=⟨dS 8 [(0,.ls L),(2,.nils),(3,.ps L false),(4,.bool false),(5,.ps [] true),(6,.ls L)],aa [a,b,c]⟩) (ev 40) (by kernel_rfl) ?_
  refine rC (I:=fun _=>True) (r:=fun k:Nat=>.slice 3 0 0 L.length (some (L.length+k))) (H:=fun k=>aa [a,b,c,.row 8 false 0 (L++List.replicate k (aU bd))]) (by kernel_rfl)
    (fun pl M a w g1 g2 g3=>uP (z:=aU bd) (z0:=zU) (xs:=L) (t:=28) (tx:=28) (e:=30) (i:=Kg) Im Fb (by kernel_rfl) ⟨30,by kernel_rfl⟩ PK (by kernel_rfl) YU (by kernel_rfl) (by kernel_rfl) hn hf (by kernel_rfl) hsm (by omega) pl M a w g1 g2 g3) fun k _=>?_
  refine⟨dS 8 [(0,.ls L),(2,.nils),(3,.ps L false),(4,.bool false),(5,.ps [] true),(6,.ls L),(7,.slice 3 0 0 L.length (some (L.length+k)))],by kernel_rfl,?_⟩
  refine b7.one (s':=⟨dS 8 [(0,.ls L),(2,.slice 3 0 0 L.length (some (L.length+k))),(3,.ps L false),(4,.bool false),(5,.ps [] true),(6,.ls L),(7,.slice 3 0 0 L.length (some (L.length+k)))],aa [a,b,c,.row 8 false 0 (L++List.replicate k (aU bd))]⟩) (ev 40) (by kernel_rfl) (b7.nil (ah.ret ⟨fun id h=>(by grind),.slice 3 0 0 L.length (some (L.length+k)),by kernel_rfl,k,trivial,by kernel_rfl,by kernel_rfl⟩))
noncomputable abbrev dC(u:TUnit)(K:AV):AObj:=.row 8 false 0 [.agg [iV u.act,iV u.item,iV u.n,iV u.kind,.str u.label,.ls (u.head.map aQ),.ls (u.words.map aQ),K]]
theorem Yx(u:TUnit)(n c i:Nat)(R R':List AV)(hT:aq R=0)(hT2:aq R'=0)(hi:i<n)(hs:n<=2^20)(hD:kD 248 [.slice 1 0 0 n (some c),nV i,nV (i+1)] (aa [dC u (.slice 1 0 0 n (some c)),dD R]) (.slice 1 0 0 (n-1) (some c)) (aa [dC u (.slice 1 0 0 n (some c)),dD R'])):
    kD 247 [.ptr 0 0 0 0,.pptr [nV i] 0 0] (aa [dC u (.slice 1 0 0 n (some c)),dD R]) (.tuple []) (aa [dC u (.slice 1 0 0 (n-1) (some c)),dD R']):=by
  exact fu Tryz.func247 fun a=>Mg 6<|Ma (iT i)<|M3 (.efx false (aH 1 0 0 (n-1)<|some c)<|aa [aZ 8 false 0 [av [iV u.act,iV u.item,iV u.n,iV u.kind,ax u.label,aW<|u.head.map aQ,aW<|u.words.map aQ,aH 1 0 0 n<|some c]],aZ 8 false 0 R']) (co (tR 8 false 0 2 (oA:aq (R)=0)) rt ti) ti hD<|Kf 2 a
theorem Xq(u x:TUnit)(n c i:Nat)(R R':List AV)(hT:aq R=0)(hT2:aq R'=0)(hD:kD 176 [.slice 1 0 0 n (some c),nV i,.ps [eU x] true] (aa [dC u (.slice 1 0 0 n (some c)),dD R]) (.slice 1 0 0 (n+1) (some c)) (aa [dC u (.slice 1 0 0 n (some c)),dD R'])):
    kD 175 [.ptr 0 0 0 0,.pptr [nV i] 0 0,.pptr [eU x] 0 0] (aa [dC u (.slice 1 0 0 n (some c)),dD R]) (.tuple []) (aa [dC u (.slice 1 0 0 (n+1) (some c)),dD R']):=by
  exact fu Tryz.func175 fun a=>Mg 7<|M3 (.efx false (aH 1 0 0 (n+1)<|some c)<|aa [aZ 8 false 0 [av [iV u.act,iV u.item,iV u.n,iV u.kind,ax u.label,aW<|u.head.map aQ,aW<|u.words.map aQ,aH 1 0 0 n<|some c]],aZ 8 false 0 R']) (co (tR 8 false 0 2 (oA:aq (R)=0)) rt ti) ti hD<|Kf 2 a
theorem XU(u x:TUnit)(n c i:Nat)(R Y:List AV)(hT:aq R=0)(hD:kD 176 [.slice 1 0 0 n (some c),nV i,.ps [eU x] true] (aa [dC u (.slice 1 0 0 n (some c)),dD R]) (.ls Y) (aa [dC u (.slice 1 0 0 n (some c)),dD R])):
    kD 175 [.ptr 0 0 0 0,.pptr [nV i] 0 0,.pptr [eU x] 0 0] (aa [dC u (.slice 1 0 0 n (some c)),dD R]) (.tuple []) (aa [dC u (.ls Y),dD R]):=by
  let q:=[av [iV u.act,iV u.item,iV u.n,iV u.kind,ax u.label,aW (u.head.map aQ),aW (u.words.map aQ),aH 1 0 0 n (some c)]];exact fu Tryz.func175 fun a=>Mg 7<|M3 (.efx true (aW Y)<|aa [aZ 8 false 0 q,aZ 8 false 0 R]) (co (tR 8 false 0 2 (oA:aq (R)=0)) rt ti) (co (aJ<|some<|aZ 8 false 0 R) (aJ<|some<|aZ 8 false 0 q) ti) hD<|Kf 2 a
theorem XY(u x:TUnit)(Y:List AV)(hD:kP 176 [.nils,iV 0,.ps [eU x] true] (.ls Y)):
    kD 175 [.ptr 0 0 0 0,.pptr [iV 0] 0 0,.pptr [eU x] 0 0] (aa [dC u .nils]) (.tuple []) (aa [dC u (.ls Y)]):=by
  exact fu Tryz.func175 fun a=>Kp 7 hD<|Kf 2 a
theorem XV(u x:TUnit)(Y:List AV)(hD:kP 176 [(.ps [] true),iV 0,.ps [eU x] true] (.ls Y)):
    kD 175 [.ptr 0 0 0 0,.pptr [iV 0] 0 0,.pptr [eU x] 0 0] (aa [dC u (.ps [] true)]) (.tuple []) (aa [dC u (.ls Y)]):=by
  exact fu Tryz.func175 fun a=>Kp 7 hD<|Kf 2 a
theorem W0(u x:TUnit)(n c i:Nat)(R R':List AV)(hT:aq R=0)(hT2:aq R'=0)(hD:kD 176 [.slice 1 0 0 n (some c),nV i,.ps [eU x] true] (aa [dC u (.slice 1 0 0 n (some c)),dD R]) (.slice 1 0 0 (n+1) (some c)) (aa [dC u (.slice 1 0 0 n (some c)),dD R'])):
    kD 186 [.ptr 0 0 0 0,.pptr [nV i] 0 0,.pptr [eU x] 0 0] (aa [dC u (.slice 1 0 0 n (some c)),dD R]) (.tuple []) (aa [dC u (.slice 1 0 0 (n+1) (some c)),dD R']):=by
  exact fu Tryz.func186 fun a=>Mg 7<|M3 (.efx false (aH 1 0 0 (n+1)<|some c)<|aa [aZ 8 false 0 [av [iV u.act,iV u.item,iV u.n,iV u.kind,ax u.label,aW<|u.head.map aQ,aW<|u.words.map aQ,aH 1 0 0 n<|some c]],aZ 8 false 0 R']) (co (tR 8 false 0 2 (oA:aq (R)=0)) rt ti) ti hD<|Kf 2 a
theorem WT(u x:TUnit)(n c i:Nat)(R Y:List AV)(hT:aq R=0)(hD:kD 176 [.slice 1 0 0 n (some c),nV i,.ps [eU x] true] (aa [dC u (.slice 1 0 0 n (some c)),dD R]) (.ls Y) (aa [dC u (.slice 1 0 0 n (some c)),dD R])):
    kD 186 [.ptr 0 0 0 0,.pptr [nV i] 0 0,.pptr [eU x] 0 0] (aa [dC u (.slice 1 0 0 n (some c)),dD R]) (.tuple []) (aa [dC u (.ls Y),dD R]):=by
  let q:=[av [iV u.act,iV u.item,iV u.n,iV u.kind,ax u.label,aW (u.head.map aQ),aW (u.words.map aQ),aH 1 0 0 n (some c)]];exact fu Tryz.func186 fun a=>Mg 7<|M3 (.efx true (aW Y)<|aa [aZ 8 false 0 q,aZ 8 false 0 R]) (co (tR 8 false 0 2 (oA:aq (R)=0)) rt ti) (co (aJ<|some<|aZ 8 false 0 R) (aJ<|some<|aZ 8 false 0 q) ti) hD<|Kf 2 a
theorem WS(u x:TUnit)(Y:List AV)(hD:kP 176 [.nils,iV 0,.ps [eU x] true] (.ls Y)):
    kD 186 [.ptr 0 0 0 0,.pptr [iV 0] 0 0,.pptr [eU x] 0 0] (aa [dC u .nils]) (.tuple []) (aa [dC u (.ls Y)]):=by
  exact fu Tryz.func186 fun a=>Kp 7 hD<|Kf 2 a
theorem WR(u x:TUnit)(Y:List AV)(hD:kP 176 [(.ps [] true),iV 0,.ps [eU x] true] (.ls Y)):
    kD 186 [.ptr 0 0 0 0,.pptr [iV 0] 0 0,.pptr [eU x] 0 0] (aa [dC u (.ps [] true)]) (.tuple []) (aa [dC u (.ls Y)]):=by
  exact fu Tryz.func186 fun a=>Kp 7 hD<|Kf 2 a
theorem Yq(u:TUnit)(l:List PWord):kD 179 [.ptr 0 0 0 0,.pptr [.ls (l.map aQ)] 0 0] (aa [dC u (.ls (u.kids.map aU))]) (.tuple []) (aa [dC (mz l u) (.ls (u.kids.map aU))]):=by
  exact fu Tryz.func179 fun a=>Kf 4 a
theorem YD(u:TUnit)(l:List PWord):kD 181 [.ptr 0 0 0 0,.pptr [.ls (l.map aQ)] 0 0] (aa [dC u (.ls (u.kids.map aU))]) (.tuple []) (aa [dC (mz l u) (.ls (u.kids.map aU))]):=by
  exact fu Tryz.func181 fun a=>Kf 4 a
theorem ZW(u:TUnit)(l:List PWord):kD 183 [.ptr 0 0 0 0,.pptr [.ls (l.map aQ)] 0 0] (aa [dC u (.ls (u.kids.map aU))]) (.tuple []) (aa [dC (Aq l u) (.ls (u.kids.map aU))]):=by
  exact fu Tryz.func183 fun a=>Kf 4 a
theorem YB(u:TUnit)(d:PDeed):kD 185 [.ptr 0 0 0 0,.pptr [aK d] 0 0] (aa [dC u (.ls (u.kids.map aU))]) (.tuple []) (aa [dC (pj d.it.label u) (.ls (u.kids.map aU))]):=by
  exact fu Tryz.func185 fun a=>Kf 6 a
noncomputable abbrev vd(p:PId):AObj:=.row 3 false 0 [aV p]
noncomputable abbrev zO:AObj:=.row 8 false 0 [zU]
theorem HL:kP 244 [.nils] .nils:=by
  exact wk Tryz.func244 (.go 4 .fin)<|bx ak
theorem HI:kP 244 [.ps [] false] (.ps [] true):=by
  exact wk Tryz.func244 (.go 7 .fin)<|bx<|lw [] true
theorem R8(w:TUnit)(r:List TUnit)(hl:r.length<2^20):kP 244 [.ls ((w::r).map aU)] (.ls ((w::r).map aU)):=by
  let q:=List.map aU (w::r);exact bB Tryz.func244<|Mg 1<|Mz 3 (fun(a:((w::r).map aU:List AV)=[])=>Mw .abs<|j5 _ _ a)<|Mg 3<|M2 .apl (et (sA:List.map aU (w::r)≠[])<|gi (sz:=8) (f:=aU) (fun _=>by(rw[aO];rfl))<|w::r) (by(refine aD (m:=2^21) ?_ ?_ ?_<;>first|omega|grind):small ((w::r).map aU).length 120=true)<|Mg 0<|M2 (.fsl 0 [] 2 q) ti (co (aJ 0) (tA aU (w::r) q.length (sA:(w::r).length=((w::r).map aU).length))<|aX gT<|w::r)<|Ml 2 (fw q false<|aX gT<|w::r)<|Mf<|bx<|aW q
theorem DK(l:List TUnit)(hl:l.length<=2^20):kP 244 [.ls (l.map aU)] (.ls (l.map aU)):=by
  cases l with
  |nil=>exact aT.ls0 (HL.less Le.nils) (HI.lessB (u:=.ls []) (by kernel_rfl))
  |cons w r=>grind[R8]
theorem yX(g:Nat)(bs:List AV)(p:PId)(u u2:TUnit)(hA:aq [eU u,aV p,.func (.func g) [] bs]=0)(hp:(ab u.act p.a&&(ab u.item p.i&&ab u.n p.n))=true)(hl:u.kids.length<=2^20)(hd:kD g (.ptr 0 0 0 0::bs) (aa [dC u (.ls (u.kids.map aU)),vd p,zO]) (.tuple []) (aa [dC u2 (.ls (u2.kids.map aU)),vd p,zO])):kP 174 [eU u,aV p,.func (.func g) [] bs] (eU u2):=by
  have hc:=DK u.kids hl
  let q:=[iV p.a,iV p.i,iV p.n];exact bB (ht:=oA) Tryz.func174<|Kv 5 (lQ ((Tryz.prog).underlying 26) u.act u.item u.n p.a p.i p.n<|aa [aZ 8 false 0 [av [iV u.act,iV u.item,iV u.n,iV u.kind,ax u.label,aW<|u.head.map aQ,aW<|u.words.map aQ,aW<|u.kids.map aU]],aZ 3 false 0 [av q],aZ 8 false 0 [av [iV 0,iV 0,iV 0,iV 0,ax [],ak,ak,ak]]])<|Mt hp<|Kp 1 hc<|Ke 2 hd<|Kf 1<|bx<|av [iV u2.act,iV u2.item,iV u2.n,iV u2.kind,ax u2.label,aW<|u2.head.map aQ,aW<|u2.words.map aQ,aW<|u2.kids.map aU]
theorem Ug(g:Nat)(bs:List AV)(p:PId)(u u2:TUnit)(n2:Nat)(Z:Nat->List AV)(hA:aq [eU u,aV p,.func (.func g) [] bs]=0)(hp:(ab u.act p.a&&(ab u.item p.i&&ab u.n p.n))=true)(hl:u.kids.length<=2^20)(hne:u.kids≠[])(hn2:u2.kids.length=n2)(hd:∀k,kD g (.ptr 0 0 0 0::bs) (aa [dC u (.slice 3 0 0 u.kids.length (some (u.kids.length+k))),vd p,zO,dD ((u.kids++List.replicate k bd).map aU)]) (.tuple []) (aa [dC u2 (.slice 3 0 0 n2 (some (u.kids.length+k))),vd p,zO,dD (u2.kids.map aU++Z k)])):kP 174 [eU u,aV p,.func (.func g) [] bs] (eU u2):=by
  let q:=[av [iV u.act,iV u.item,iV u.n,iV u.kind,ax u.label,aW (u.head.map aQ),aW (u.words.map aQ),aW (u.kids.map aU)]];let q1:=[iV p.a,iV p.i,iV p.n];let q2:=[av [iV 0,iV 0,iV 0,iV 0,ax [],ak,ak,ak]];let q3:=List.map aU u2.kids;exact bB (ht:=oA) Tryz.func174<|Kv 5 (lQ ((Tryz.prog).underlying 26) u.act u.item u.n p.a p.i p.n<|aa [aZ 8 false 0 q,aZ 3 false 0 [av q1],aZ 8 false 0 q2])<|Mt hp<|Mg 1<|Mq (EA u.kids hne hl (aZ 8 false 0 q) (aZ 3 false 0 [av q1])<|aZ 8 false 0 q2) fun a _=>Ke 2 (hd a)<|M2 (.fza 0 7 3 [3,6] q3) (ju rt rt rt ti) (co (aJ 0) (KA (xs:=List.map aU u2.kids) (ys:=Z a) (n:=n2) sA)<|aX gT u2.kids)<|Kf 1<|bx<|av [iV u2.act,iV u2.item,iV u2.n,iV u2.kind,ax u2.label,aW<|u2.head.map aQ,aW<|u2.words.map aQ,aW q3]
theorem Up{l m:List TUnit}{i:Nat}(h:i<l.length):gD (l++m) i=gD l i:=by
  grind[gD]
theorem td{l m:List TUnit}{i n:Nat}{x:TUnit}(h:l.length=n)(hi:i<n):((l++m).set i x).take n=l.set i x:=by
  simp_all
theorem So{l m:List TUnit}{n:Nat}(h:l.length=n):(l++m).take n=l:=by simp_all
theorem LR{l:List TUnit}{i:Nat}(h:i<l.length):l.drop i=gD l i::l.drop (i+1):=by
  grind[List.drop_eq_getElem_cons,gD]
theorem Yw{p:PId}{f:TUnit->TUnit}{l:List TUnit}{i:Nat}(h:jW p f l i (l.drop i))(hi:l.length<=i):eZ p f l=l:=by
  grind[List.drop_eq_nil_of_le,jW.done]
theorem Yj{p:PId}{f:TUnit->TUnit}{l:List TUnit}{i:Nat}(h:jW p f l i (l.drop i))(hi:i<l.length)(hw:bp p (gD l i)=false):jW p f l (i+1) (l.drop (i+1)):=by
  grind[LR,jW.skip]
theorem Yk{p:PId}{f:TUnit->TUnit}{l:List TUnit}{i:Nat}(h:jW p f l i (l.drop i))(hi:i<l.length)(hw:bp p (gD l i)=true):eZ p f l=l.set i (cW p f (gD l i)):=by
  grind[LR,jW.hit]
theorem Y3(g:Nat)(bs:List AV)(p:PId)(u:TUnit)(hA:aq [eU u,aV p,.func (.func g) [] bs]=0)(hA2:(AV.func (.func g) [] bs).top=0)(hp:(ab u.act p.a&&(ab u.item p.i&&ab u.n p.n))=false)(h0:u.kids.length=0)(hl0:au 0 (Int.ofNat u.kids.length)=false):kP 174 [eU u,aV p,.func (.func g) [] bs] (eU u):=by
  have hc:=DK u.kids (by omega)
  let q:=[aZ 8 false 0 [av [iV u.act,iV u.item,iV u.n,iV u.kind,ax u.label,aW (u.head.map aQ),aW (u.words.map aQ),aW (u.kids.map aU)]],aZ 3 false 0 [av [iV p.a,iV p.i,iV p.n]],aZ 8 false 0 [av [iV 0,iV 0,iV 0,iV 0,ax [],ak,ak,ak]]];let q1:=[bV (bK g) [] bs,bX 0 0 0 0,bX 1 0 0 0,bX 2 0 0 0,aW (u.kids.map aU),aW (u.kids.map aU),nV u.kids.length,iV 0];exact bB (ht:=oA) Tryz.func174<|Kv 5 (lQ ((Tryz.prog).underlying 26) u.act u.item u.n p.a p.i p.n<|aa q)<|Mh hp<|Kp 1 hc<|Kl 2 27 (ln aU u.kids)<|Mg 0<|Zr [2,3,4,6,7,26,27,28] (q1,q) True 0 ti fun _ _=>Kh 0 hl0<|Kf 4<|bx<|av [iV u.act,iV u.item,iV u.n,iV u.kind,ax u.label,aW<|u.head.map aQ,aW<|u.words.map aQ,aW<|u.kids.map aU]
theorem Y2(g:Nat)(bs:List AV)(p:PId)(f:TUnit->TUnit)(u:TUnit)(hA:aq [eU u,aV p,.func (.func g) [] bs]=0)(hA2:(AV.func (.func g) [] bs).top=0)(hp:(ab u.act p.a&&(ab u.item p.i&&ab u.n p.n))=false)(hne:u.kids≠[])(hn:u.kids.length<=2^20)
    (hf:∀k,k∈u.kids->kP 21 [eU k,aV p] (.tuple [eU (bT p k),.bool (bp p k)]))
    (ih:∀k,k∈u.kids->kP 174 [eU k,aV p,.func (.func g) [] bs] (eU (cW p f k))):kP 174 [eU u,aV p,.func (.func g) [] bs] (eU (jr u (eZ p f u.kids))):=by
  have rr0:∀b',(h:(List.map aU (jr u (eZ p f u.kids)).kids)=b':=by first|rfl|(rw[Yk hx0.2 (by(first|omega|(simp only[oN]at *;omega))) (by rw[<-q0 (by(first|omega|(simp only[oN]at *;omega)))];assumption),q0 (by(first|omega|(simp only[oN]at *;omega)))];exact congrArg _ (td rfl (by(first|omega|(simp only[oN]at *;omega)))).symm)|(rw[Yw hx0.2 (by(first|omega|(simp only[oN]at *;omega)))];exact congrArg _ (So rfl).symm))->(List.map aU (jr u (eZ p f u.kids)).kids)=b':=(fun _ h=>h);exact bB (ht:=oA) Tryz.func174<|Kv 5 (lQ ((Tryz.prog).underlying 26) u.act u.item u.n p.a p.i p.n<|aa [aZ 8 false 0 [av [iV u.act,iV u.item,iV u.n,iV u.kind,ax u.label,aW<|u.head.map aQ,aW<|u.words.map aQ,aW<|u.kids.map aU]],aZ 3 false 0 [av [iV p.a,iV p.i,iV p.n]],aZ 8 false 0 [av [iV 0,iV 0,iV 0,iV 0,ax [],ak,ak,ak]]])<|Mh hp<|Mg 1<|Mq (EA u.kids hne hn (aZ 8 false 0 [av [iV u.act,iV u.item,iV u.n,iV u.kind,ax u.label,aW<|u.head.map aQ,aW<|u.words.map aQ,aW<|u.kids.map aU]]) (aZ 3 false 0 [av [iV p.a,iV p.i,iV p.n]])<|aZ 8 false 0 [av [iV 0,iV 0,iV 0,iV 0,ax [],ak,ak,ak]]) fun a _=>Mg 3<|Zp (0:Nat) [2,3,4,6,7,26,27,28] (fun b=>([bV (bK g) [] bs,bX 0 0 0 0,bX 1 0 0 0,bX 2 0 0 0,aH 3 0 0 u.kids.length<|some<|u.kids.length+a,aH 3 0 0 u.kids.length<|some<|u.kids.length+a,nV u.kids.length,nV b],[aZ 8 false 0 [av [iV u.act,iV u.item,iV u.n,iV u.kind,ax u.label,aW<|u.head.map aQ,aW<|u.words.map aQ,aW<|u.kids.map aU]],aZ 3 false 0 [av [iV p.a,iV p.i,iV p.n]],aZ 8 false 0 [av [iV 0,iV 0,iV 0,iV 0,ax [],ak,ak,ak]],aZ 8 false 0<|(u.kids++List.replicate a bd).map aU])) (fun a=>a<=u.kids.length/\jW p f u.kids a (u.kids.drop a)) (fun a=>u.kids.length-a) (by simp_all[jW.start]) fun b hx0 c=>have hx0:b<=u.kids.length/\jW p f u.kids b (u.kids.drop b):=hx0;have q0:b<u.kids.length->gD (u.kids++List.replicate a bd) b=gD u.kids b:=fun h=>Up h;Ka 0 (Int.ofNat b) (Int.ofNat u.kids.length) (fun _ _=>K1 0 .rix (et (aJ 0) (sA:b<u.kids.length))<|Mr (et (aJ 0)<|rx aU (g:=Go.Ev.eU) aO (gR:b<(u.kids++List.replicate a bd).length))<|Kp 4 (hf (gD (u.kids++List.replicate a bd) b)<|by grind[gY])<|Kb 6 (bp p<|gD (u.kids++List.replicate a bd) b) (fun _=>Kp 4 (ih (gD (u.kids++List.replicate a bd) b)<|by grind[gY])<|M1 .rix (et (aJ 0) (sA:b<u.kids.length))<|M1 (.rst (av [iV (gD (u.kids++List.replicate a bd) b).act,iV (gD (u.kids++List.replicate a bd) b).item,iV (gD (u.kids++List.replicate a bd) b).n,iV (gD (u.kids++List.replicate a bd) b).kind,ax (gD (u.kids++List.replicate a bd) b).label,aW<|List.map aQ (gD (u.kids++List.replicate a bd) b).head,aW<|List.map aQ (gD (u.kids++List.replicate a bd) b).words,aW<|List.map aU (gD (u.kids++List.replicate a bd) b).kids])<|((u.kids++List.replicate a bd).set b<|cW p f<|gD (u.kids++List.replicate a bd) b).map aU) (co (aJ 0) (rx aU (g:=Go.Ev.eU) aO (gR:b<(u.kids++List.replicate a bd).length))<|DB (f:=aU) (g:=Go.Ev.eU) aO (l:=u.kids++List.replicate a bd) (i:=b) (w:=cW p f<|gD (u.kids++List.replicate a bd) b))<|Mg 0<|M2 (.fsl 3 [3,6] 48<|(((u.kids++List.replicate a bd).set b<|cW p f<|gD (u.kids++List.replicate a bd) b).take u.kids.length).map aU) (ju rt rt rt ti) (co (aJ 0) (yG (f:=aU) (l:=(u.kids++List.replicate a bd).set b<|cW p f<|gD (u.kids++List.replicate a bd) b) (n:=u.kids.length))<|aX gT<|((u.kids++List.replicate a bd).set b<|cW p f<|gD (u.kids++List.replicate a bd) b).take u.kids.length)<|Ml 48 (fw ((((u.kids++List.replicate a bd).set b<|cW p f<|gD (u.kids++List.replicate a bd) b).take u.kids.length).map aU) (oq (some<|u.kids.length+a)<|some u.kids.length)<|aX gT<|((u.kids++List.replicate a bd).set b<|cW p f<|gD (u.kids++List.replicate a bd) b).take u.kids.length)<|Kf 3 (aM (.cons (bx _)<|.cons (bx _)<|.cons (bx _)<|.cons (bx _)<|.cons (bx _)<|.cons (bx _)<|.cons (bx _)<|.cons (cY<|rr0<|(((u.kids++List.replicate a bd).set b<|cW p f<|gD (u.kids++List.replicate a bd) b).take u.kids.length).map aU) .nil)<|by kernel_rfl:Le _ (AV.agg [iV u.act,iV u.item,iV u.n,iV u.kind,AV.str u.label,AV.ls (u.head.map aQ),AV.ls (u.words.map aQ),AV.ls ((((u.kids++List.replicate a bd).set b (cW p f (gD (u.kids++List.replicate a bd) b))).take u.kids.length).map aU)]))) fun _=>Kl 0 47 (iT b)<|Mg 0<|M2 (.frl 4 [3,4,6,7,26,27,28] [2]) (Hy (Px (sz:=8) (op:=false) (ep:=0) (n:=4)<|aX gT<|u.kids++List.replicate a bd) rt rt rt ti) (et (oA:(AV.func (Fn.func g) [] bs).top<=4) ti)<|Mf<|c (b+1) (by grind[Yj]) gR) fun _ _=>Mg 0<|M2 (.fsl 3 [3,6] 48<|((u.kids++List.replicate a bd).take u.kids.length).map aU) (ju rt rt rt ti) (co (aJ 0) (yG (f:=aU) (l:=u.kids++List.replicate a bd) (n:=u.kids.length))<|aX gT<|(u.kids++List.replicate a bd).take u.kids.length)<|Ml 48 (fw (((u.kids++List.replicate a bd).take u.kids.length).map aU) (oq (some<|u.kids.length+a)<|some u.kids.length)<|aX gT<|(u.kids++List.replicate a bd).take u.kids.length)<|Kf 3 (aM (.cons (bx _)<|.cons (bx _)<|.cons (bx _)<|.cons (bx _)<|.cons (bx _)<|.cons (bx _)<|.cons (bx _)<|.cons (cY<|rr0<|((u.kids++List.replicate a bd).take u.kids.length).map aU) .nil)<|by kernel_rfl:Le _ (AV.agg [iV u.act,iV u.item,iV u.n,iV u.kind,AV.str u.label,AV.ls (u.head.map aQ),AV.ls (u.words.map aQ),AV.ls (((u.kids++List.replicate a bd).take u.kids.length).map aU)]))
theorem g9{g:Nat}{bs:List AV}{p:PId}(hb:aq bs=0)(x:TUnit):aq [eU x,aV p,.func (.func g) [] bs]=0:=by
  have h1:(eU x).top=0:=by rw[<-aO];exact gT x
  have h2:(AV.func (.func g) [] bs).top=0:=by simp only[AV.top,aq,hb];rfl
  exact j8.2 fun y hy=>by
    simp only[eu,List.mem_nil_iff,or_false]at hy
    rcases hy with rfl|rfl|rfl
    · omega
    · exact JD p
    omega
theorem oP(g:Nat)(bs:List AV)(p:PId)(f:TUnit->TUnit)(hb:aq bs=0):∀(u:TUnit),nU u<=2^19->(∀x,x∈bU u->x.head.length<2^30/\x.words.length<2^30)->
    (∀v,v∈bU u->fD p v=true->kP 174 [eU v,aV p,.func (.func g) [] bs] (eU (f v)))->kP 174 [eU u,aV p,.func (.func g) [] bs] (eU (cW p f u)):=by
  refine TUnit.ind fun u ih hn ht hit=>?_
  have hA:=g9 (g:=g) (bs:=bs) (p:=p) hb
  cases hi:fD p u with
  |true=>grind[rZ,cS]
  | false=>
    have hkl:=bg u
    rw[mD hi]
    by_cases h0:u.kids=[]
    · have e:jr u (eZ p f u.kids)=u:=by rw[h0,sk];cases u;simp only[TUnit.kids]at h0;subst h0;rfl
      rw[e]
      exact Y3 g bs p u (hA u) (by simp only[AV.top,aq,hb];rfl) hi (by simp_all) (by rw[h0];rfl)
    · exact Y2 g bs p f u (hA u) (by simp only[AV.top,aq,hb];rfl) hi h0 (by omega) (fun k hk=>Rc p k (by have:=ig hk;omega) fun x hx=>ht x (bv hk hx))
        fun k hk=>ih k hk (by have:=ig hk;omega) (fun x hx=>ht x (bv hk hx)) fun v hv=>hit v (bv hk hv)
theorem A6{bs:List AV}(rs:List Nat)(h0:fL rs 0=0)(hb:aq bs=0):mX (fL rs) (.ptr 0 0 0 0::bs)=.ptr 0 0 0 0::bs:=by
  grind[mX,Ev.ren,eP]
theorem As{g:Nat}{bs:List AV}{u u2:TUnit}{n n2 c:Nat}{X X2:List AV}{A B:AObj}(hb:aq bs=0)(hX:aq X=0)(hX2:aq X2=0)(h:kD g (.ptr 0 0 0 0::bs) (aa [dC u (.slice 1 0 0 n (some c)),dD X]) (.tuple []) (aa [dC u2 (.slice 1 0 0 n2 (some c)),dD X2])):
    kD g (.ptr 0 0 0 0::bs) (aa [dC u (.slice 3 0 0 n (some c)),A,B,dD X]) (.tuple []) (aa [dC u2 (.slice 3 0 0 n2 (some c)),A,B,dD X2]):=
  pt jq [0,3] h (A6 _ rfl hb) rfl rfl ⟨⟨rfl,vX (by kernel_rfl)⟩,⟨rfl,by show aq X<=2;omega⟩,trivial⟩ ⟨⟨rfl,vX (by kernel_rfl)⟩,⟨rfl,by show aq X2<=2;omega⟩,trivial⟩
    (by show Nat.mx _ (aq bs)<=2;rw[hb];exact vX (by kernel_rfl)) (bE _) ⟨by kernel_rfl,by rw[va hX];kernel_rfl,trivial⟩ ⟨by kernel_rfl,by kernel_rfl,trivial⟩
    (by show _=AHeap.put (AHeap.put _ _ _) _ (kW _ (.row 8 false 0 X2));rw[va hX2];kernel_rfl)
theorem DQ{g:Nat}{bs:List AV}{u u2:TUnit}{n c:Nat}{X Y:List AV}{A B:AObj}(hb:aq bs=0)(hX:aq X=0)(h:kD g (.ptr 0 0 0 0::bs) (aa [dC u (.slice 1 0 0 n (some c)),dD X]) (.tuple []) (aa [dC u2 (.ls Y),dD X])):
    kD g (.ptr 0 0 0 0::bs) (aa [dC u (.slice 3 0 0 n (some c)),A,B,dD X]) (.tuple []) (aa [dC u2 (.ls Y),A,B,dD X]):=
  pt jq [0,3] h (A6 _ rfl hb) rfl rfl ⟨⟨rfl,vX (by kernel_rfl)⟩,⟨rfl,by show aq X<=2;omega⟩,trivial⟩ ⟨⟨rfl,vX (by kernel_rfl)⟩,⟨rfl,by show aq X<=2;omega⟩,trivial⟩
    (by show Nat.mx _ (aq bs)<=2;rw[hb];exact vX (by kernel_rfl)) (bE _) ⟨by kernel_rfl,by rw[va hX];kernel_rfl,trivial⟩ ⟨by kernel_rfl,by kernel_rfl,trivial⟩
    (by show _=AHeap.put (AHeap.put _ _ _) _ (kW _ (.row 8 false 0 X));rw[va hX];kernel_rfl)
theorem jT{g:Nat}{bs:List AV}{u u2:TUnit}{A B:AObj}{K K2:AV}(hb:aq bs=0)(h1:aq [.agg [iV u.act,iV u.item,iV u.n,iV u.kind,.str u.label,.ls (u.head.map aQ),.ls (u.words.map aQ),K]]=0)(h2:aq [.agg [iV u2.act,iV u2.item,iV u2.n,iV u2.kind,.str u2.label,.ls (u2.head.map aQ),.ls (u2.words.map aQ),K2]]=0)(h:kD g (.ptr 0 0 0 0::bs) (aa [dC u K]) (.tuple []) (aa [dC u2 K2])):
    kD g (.ptr 0 0 0 0::bs) (aa [dC u K,A,B]) (.tuple []) (aa [dC u2 K2,A,B]):=
  fj jq 0 h1 h2 h (A6 _ rfl hb) rfl rfl (by simp only[aq,AV.top,hb];rfl) rfl (by kernel_rfl) (by kernel_rfl)
theorem LA(g:Nat)(bs:List AV)(p:PId)(u u2:TUnit)(n2:Nat)(Z:Nat->List AV)(hA:aq [eU u,aV p,.func (.func g) [] bs]=0)(hp:(ab u.act p.a&&(ab u.item p.i&&ab u.n p.n))=true)(hl:u.kids.length<=2^20)(hne:u.kids≠[])(hn2:u2.kids.length=n2)
    (hdA:∀k,By (Nat.beq k 0) true->kD g (.ptr 0 0 0 0::bs) (aa [dC u (.slice 3 0 0 u.kids.length (some (u.kids.length+k))),vd p,zO,dD ((u.kids++List.replicate k bd).map aU)]) (.tuple []) (aa [dC u2 (.ls (u2.kids.map aU)),vd p,zO,dD ((u.kids++List.replicate k bd).map aU)]))
    (hdB:∀k,By (Nat.beq k 0) false->kD g (.ptr 0 0 0 0::bs) (aa [dC u (.slice 3 0 0 u.kids.length (some (u.kids.length+k))),vd p,zO,dD ((u.kids++List.replicate k bd).map aU)]) (.tuple []) (aa [dC u2 (.slice 3 0 0 n2 (some (u.kids.length+k))),vd p,zO,dD (u2.kids.map aU++Z k)])):kP 174 [eU u,aV p,.func (.func g) [] bs] (eU u2):=by
  let q:=av [iV u2.act,iV u2.item,iV u2.n,iV u2.kind,ax u2.label,aW (u2.head.map aQ),aW (u2.words.map aQ),aW (u2.kids.map aU)];let q1:=[av [iV u.act,iV u.item,iV u.n,iV u.kind,ax u.label,aW (u.head.map aQ),aW (u.words.map aQ),aW (u.kids.map aU)]];let q2:=[iV p.a,iV p.i,iV p.n];let q3:=[av [iV 0,iV 0,iV 0,iV 0,ax [],ak,ak,ak]];exact bB (ht:=oA) Tryz.func174<|Kv 5 (lQ ((Tryz.prog).underlying 26) u.act u.item u.n p.a p.i p.n<|aa [aZ 8 false 0 q1,aZ 3 false 0 [av q2],aZ 8 false 0 q3])<|Mt hp<|Mg 1<|Mq (EA u.kids hne hl (aZ 8 false 0 q1) (aZ 3 false 0 [av q2])<|aZ 8 false 0 q3) fun a _=>Ks 2 (a.beq 0) (fun b=>Me (hdA a b)<|Kf 1<|bx q) fun b=>Me (hdB a b)<|M2 (.fza 0 7 3 [3,6]<|u2.kids.map aU) (ju rt rt rt ti) (co (aJ 0) (KA (xs:=List.map aU u2.kids) (ys:=Z a) (n:=n2) sA)<|aX gT u2.kids)<|Kf 1<|bx q
theorem LB(g:Nat)(bs:List AV)(p:PId)(u u2:TUnit)(hA:aq [eU u,aV p,.func (.func g) [] bs]=0)(hp:(ab u.act p.a&&(ab u.item p.i&&ab u.n p.n))=true)(h0:u.kids=[])
    (hdN:kD g (.ptr 0 0 0 0::bs) (aa [dC u .nils,vd p,zO]) (.tuple []) (aa [dC u2 (.ls (u2.kids.map aU)),vd p,zO]))
    (hdP:kD g (.ptr 0 0 0 0::bs) (aa [dC u (.ps [] true),vd p,zO]) (.tuple []) (aa [dC u2 (.ls (u2.kids.map aU)),vd p,zO])):kP 174 [eU u,aV p,.func (.func g) [] bs] (eU u2):=by
  obtain⟨a,i,n,k,l,h,w,ks⟩:=u
  simp only[TUnit.kids]at h0
  subst h0
  let q:=av [iV u2.act,iV u2.item,iV u2.n,iV u2.kind,ax u2.label,aW (u2.head.map aQ),aW (u2.words.map aQ),aW (u2.kids.map aU)];let q1:=[iV p.a,iV p.i,iV p.n];exact bB (ht:=oA) Tryz.func174<|Kv 5 (lQ ((Tryz.prog).underlying 26) (TUnit.mk a i n k l h w []).act (TUnit.mk a i n k l h w []).item (TUnit.mk a i n k l h w []).n p.a p.i p.n<|aa [aZ 8 false 0 [av [iV (TUnit.mk a i n k l h w []).act,iV (TUnit.mk a i n k l h w []).item,iV (TUnit.mk a i n k l h w []).n,iV (TUnit.mk a i n k l h w []).kind,ax l,aW<|List.map aQ (TUnit.mk a i n k l h w []).head,aW<|List.map aQ (TUnit.mk a i n k l h w []).words,aW []]],aZ 3 false 0 [av q1],aZ 8 false 0 [av [iV 0,iV 0,iV 0,iV 0,ax [],ak,ak,ak]]])<|Mt hp<|Mg 1<|Mz 17 (fun(_:([]:List AV)=[])=>Mp HL<|Ke 2 hdN<|Kf 1<|bx q)<|Mp HI<|Ke 2 hdP<|Kf 1<|bx q
theorem j7{a b:List AV}(h1:aq a=0)(h2:aq b=0):aq (a++b)=0:=j8.2 fun x hx=>by
  rcases iy.1 hx with h|h
  · exact j8.1 h1 x h
  · exact j8.1 h2 x h
theorem Ra(l:List TUnit):dr 8 (l.map aU)=true:=gi (fun u=>by cases u;rfl) l
theorem UC(x:TUnit):dr 8 [eU x]=true:=by kernel_rfl
theorem OJ(x:TUnit):(eU x).top=0:=by rw[<-aO];exact gT x
theorem tz{i:Nat}{x:TUnit}{l:List AV}(h:aq l=0):aq (gg i (eU x) l)=0:=j8.2 fun y hy=>by
  unfold gg at hy
  rcases iy.1 hy with h1|h1
  · exact j8.1 h y (pE h1)
  · rcases eu.1 h1 with rfl|h1
    · exact OJ x
    · exact j8.1 h y (OO h1)
theorem Ls(i:Nat)(x:TUnit)(l:List TUnit):(uv i x l).map aU=gg i (eU x) (l.map aU):=by
  unfold uv gg
  rw[pA,eb,List.map_take,List.map_drop,aO]
theorem L0(i:Nat)(l:List TUnit):(l.eraseIdx i).map aU=(l.map aU).eraseIdx i:=by
  grind[List.eraseIdx_eq_take_drop_succ,List.map_take,List.map_drop]
theorem CL{i:Nat}{x:TUnit}{l:List TUnit}(h:i<=l.length):(uv i x l).length=l.length+1:=by
  grind[uv]
theorem Gp(l:List TUnit)(k:Nat):(l++List.replicate k bd).map aU=l.map aU++List.replicate k (aU bd):=by simp_all
theorem my(k:Nat):aq (List.replicate k (aU bd))=0:=by rw[<-List.map_replicate];exact aX gT _
theorem O7(p:PId)(i:Nat)(u:TUnit)(hn:nU u<=2^19)(ht:∀x,x∈bU u->x.head.length<2^30/\x.words.length<2^30)(hv:∀v,v∈bU u->fD p v=true->i<v.kids.length):
    aT Tryz.prog G 174 [eU u,aV p,.func (.func 247) [] [.pptr [.int .i64 (.ofNat i)] 0 0]] (eU (cW p (dR i) u)):=by
  refine oP _ _ p (dR i) rfl u hn ht fun v hm hid=>?_
  have hi:=hv v hm hid
  have hkl:=bg v
  have hvu:=dA hm
  have hl:v.kids.length<=2^20:=by omega
  refine Ug _ _ p v (dR i v) (v.kids.length-1) (fun k=>zU::List.replicate k (aU bd)) (g9 rfl v) hid hl (fun e=>by grind) (by show(v.kids.eraseIdx i).length=_;grind) fun k=>?_
  have h:=RN (v.kids.map aU) (List.replicate k (aU bd)) v.kids.length i hi (cX _) hl (Ra _) (j7 (aX gT _) (my k))
  rw[qX]at h
  have hT:aq ((v.kids.map aU).eraseIdx i++(zU::List.replicate k (aU bd)))=0:=j7 (by rw[<-L0];exact aX gT _) (by show Nat.mx zU.top (aq _)=0;rw[my];rfl)
  rw[Gp]
  show aF _ _ _ _ _ fun v1 h1=>v1=.tuple []/\h1=aa [dC v (.slice 3 0 0 (v.kids.length-1) (some (v.kids.length+k))),vd p,zO,dD ((v.kids.eraseIdx i).map aU++_)]
  rw[L0]
  refine As rfl (j7 (aX gT _) (my k)) hT (Yx v v.kids.length _ i _ _ (j7 (aX gT _) (my k)) hT hi hl ?_)
  exact fj jq 1 (j7 (aX gT _) (my k)) hT h rfl rfl (by simp_all) (by kernel_rfl) (by kernel_rfl) (by kernel_rfl) (by kernel_rfl)
theorem WB(x:TUnit)(t:Bool)(off len c:Nat)(X:List AV):kD 245 [.ps [eU x] t,.slice 0 0 off len (some c)] (aa [dD X]) (.bool false) (aa [dD X]):=
  Bl (tS:=28) (tR:=4) (e:=30) (n:=8) Tryz.func245 (by kernel_rfl) (by kernel_rfl) (by kernel_rfl) (by kernel_rfl) (by simp_all) (by kernel_rfl) (j5 _ _) (by kernel_rfl:(aa [dD X]).get 0=some (.row 8 false 0 X))
theorem GC(L:List AV)(x:TUnit)(z:AV)(Z:List AV)(n k i:Nat)(hi:i<=n)(hn:L.length=n)(hs:n<2^20)(hk:Z.length=k)(hf:dr 8 L=true)(hT:aq (L++z::Z)=0):kD 176 [.slice 0 0 0 n (some (n+(k+1))),nV i,.ps [eU x] true] (aa [dD (L++z::Z)]) (.slice 0 0 0 (n+1) (some (n+(k+1)))) (aa [dD (gg i (eU x) L++Z)]):=by
  rcases eT i n with h|h
  · grind[QG,UC,WB]
  · obtain rfl:i=n:=by omega
    exact QI L Z (eU x) z true i k hn hs hk (UC x)
theorem GF(L:List AV)(x:TUnit)(n i:Nat)(hi:i<=n)(hn:L.length=n)(hs:n<2^20)(hf:dr 8 L=true)(hT:aq L=0):kD 176 [.slice 0 0 0 n (some n),nV i,.ps [eU x] true] (aa [dD L]) (.ls (gg i (eU x) L)) (aa [dD L]):=by
  rcases eT i n with h|h
  · refine QF L (eU x) true n i h hn hs (UC x) hf hT (j8.2 fun y hy=>?_) (tz hT)
    rcases iy.1 hy with h1|h1
    · exact j8.1 hT y (pE h1)
    · rcases eu.1 h1 with rfl|h1
      · exact OJ x
      · rw[(List.mem_replicate.1 h1).2];rfl
  · grind[QH,UC,tz]
theorem O5(p:PId)(i:Nat)(x u:TUnit)(hn:nU u<=2^19)(ht:∀x,x∈bU u->x.head.length<2^30/\x.words.length<2^30)(hv:∀v,v∈bU u->fD p v=true->i<=v.kids.length):
    aT Tryz.prog G 174 [eU u,aV p,.func (.func 175) [] [.pptr [.int .i64 (.ofNat i)] 0 0,.pptr [eU x] 0 0]] (eU (cW p (dV i x) u)):=by
  have hb:aq [.pptr [.int .i64 (.ofNat i)] 0 0,.pptr [eU x] 0 0]=0:=by kernel_rfl
  refine oP _ _ p (dV i x) hb u hn ht fun v hm hid=>?_
  have hi:=hv v hm hid
  have hkl:=bg v
  have hvu:=dA hm
  have hl:v.kids.length<2^20:=by omega
  have hK:=aX gT v.kids
  by_cases h0:v.kids=[]
  · rw[h0]at hi
    obtain rfl:i=0:=by simp_all
    have e:(dV 0 x v).kids =[x]:=by show uv 0 x v.kids=[x];rw[h0];rfl
    have e2:(dV 0 x v).kids.map aU=[eU x]:=by rw[e,eb,aO];rfl
    refine LB _ _ p v (dV 0 x v) (g9 hb v) hid h0 ?_ ?_
    · rw[e2];exact jT (u2:=dV 0 x v) hb (by kernel_rfl) (by kernel_rfl) (XY v x [eU x] (GE x true))
    · rw[e2];exact jT (u2:=dV 0 x v) hb (by kernel_rfl) (by kernel_rfl) (XV v x [eU x] (GD x true))
  · have e2:(dV i x v).kids.map aU=gg i (eU x) (v.kids.map aU):=Ls i x v.kids
    refine LA _ _ p v (dV i x v) (v.kids.length+1) (fun k=>List.replicate (k-1) (aU bd)) (g9 hb v) hid (by omega) h0 (CL hi) (fun k hk=>?_) fun k hk=>?_
    · obtain rfl:k=0:=pC hk
      rw[e2,Gp,List.replicate_zero,ej]
      refine DQ (u2:=dV i x v) hb hK (XU v x v.kids.length _ i _ _ hK ?_)
      exact fj jq 1 hK hK (GF (v.kids.map aU) x v.kids.length i hi (cX _) hl (Ra _) hK) rfl rfl (by simp_all) (by kernel_rfl) (by kernel_rfl) (by kernel_rfl) (by kernel_rfl)
    · obtain⟨j,rfl⟩:∃j,k=j+1:=⟨k-1,by grind[Nat.ne_of_beq_eq_false]⟩
      rw[e2,Gp,show j+1-1=j from rfl,List.replicate_succ]
      have hT:aq (v.kids.map aU++aU bd::List.replicate j (aU bd))=0:=by rw[<-List.replicate_succ];grind[j7,my]
      have hT2:aq (gg i (eU x) (v.kids.map aU)++List.replicate j (aU bd))=0:=j7 (tz hK) (my _)
      refine As (u2:=dV i x v) hb hT hT2 (Xq v x v.kids.length _ i _ _ hT hT2 ?_)
      exact fj jq 1 hT hT2 (GC (v.kids.map aU) x (aU bd) (List.replicate j (aU bd)) v.kids.length j i hi (cX _) hl (qX ..) (Ra _) hT) rfl rfl (by simp_all) (by kernel_rfl) (by kernel_rfl) (by kernel_rfl) (by kernel_rfl)
theorem O4(p:PId)(i:Nat)(x u:TUnit)(hn:nU u<=2^19)(ht:∀x,x∈bU u->x.head.length<2^30/\x.words.length<2^30)(hv:∀v,v∈bU u->fD p v=true->i<=v.kids.length):
    aT Tryz.prog G 174 [eU u,aV p,.func (.func 186) [] [.pptr [.int .i64 (.ofNat i)] 0 0,.pptr [eU x] 0 0]] (eU (cW p (dV i x) u)):=by
  have hb:aq [.pptr [.int .i64 (.ofNat i)] 0 0,.pptr [eU x] 0 0]=0:=by kernel_rfl
  refine oP _ _ p (dV i x) hb u hn ht fun v hm hid=>?_
  have hi:=hv v hm hid
  have hkl:=bg v
  have hvu:=dA hm
  have hl:v.kids.length<2^20:=by omega
  have hK:=aX gT v.kids
  by_cases h0:v.kids=[]
  · rw[h0]at hi
    obtain rfl:i=0:=by simp_all
    have e:(dV 0 x v).kids =[x]:=by show uv 0 x v.kids=[x];rw[h0];rfl
    have e2:(dV 0 x v).kids.map aU=[eU x]:=by rw[e,eb,aO];rfl
    refine LB _ _ p v (dV 0 x v) (g9 hb v) hid h0 ?_ ?_
    · rw[e2];exact jT (u2:=dV 0 x v) hb (by kernel_rfl) (by kernel_rfl) (WS v x [eU x] (GE x true))
    · rw[e2];exact jT (u2:=dV 0 x v) hb (by kernel_rfl) (by kernel_rfl) (WR v x [eU x] (GD x true))
  · have e2:(dV i x v).kids.map aU=gg i (eU x) (v.kids.map aU):=Ls i x v.kids
    refine LA _ _ p v (dV i x v) (v.kids.length+1) (fun k=>List.replicate (k-1) (aU bd)) (g9 hb v) hid (by omega) h0 (CL hi) (fun k hk=>?_) fun k hk=>?_
    · obtain rfl:k=0:=pC hk
      rw[e2,Gp,List.replicate_zero,ej]
      refine DQ (u2:=dV i x v) hb hK (WT v x v.kids.length _ i _ _ hK ?_)
      exact fj jq 1 hK hK (GF (v.kids.map aU) x v.kids.length i hi (cX _) hl (Ra _) hK) rfl rfl (by simp_all) (by kernel_rfl) (by kernel_rfl) (by kernel_rfl) (by kernel_rfl)
    · obtain⟨j,rfl⟩:∃j,k=j+1:=⟨k-1,by grind[Nat.ne_of_beq_eq_false]⟩
      rw[e2,Gp,show j+1-1=j from rfl,List.replicate_succ]
      have hT:aq (v.kids.map aU++aU bd::List.replicate j (aU bd))=0:=by rw[<-List.replicate_succ];grind[j7,my]
      have hT2:aq (gg i (eU x) (v.kids.map aU)++List.replicate j (aU bd))=0:=j7 (tz hK) (my _)
      refine As (u2:=dV i x v) hb hT hT2 (W0 v x v.kids.length _ i _ _ hT hT2 ?_)
      exact fj jq 1 hT hT2 (GC (v.kids.map aU) x (aU bd) (List.replicate j (aU bd)) v.kids.length j i hi (cX _) hl (qX ..) (Ra _) hT) rfl rfl (by simp_all) (by kernel_rfl) (by kernel_rfl) (by kernel_rfl) (by kernel_rfl)
theorem O1(p:PId)(l:List PWord)(u:TUnit)(hn:nU u<=2^19)(ht:∀x,x∈bU u->x.head.length<2^30/\x.words.length<2^30):
    kP 174 [eU u,aV p,.func (.func 179) [] [.pptr [.ls (l.map aQ)] 0 0]] (eU (cW p (mz l) u)):=by
  have hb:aq [.pptr [.ls (l.map aQ)] 0 0]=0:=by kernel_rfl
  refine oP _ _ p (mz l) hb u hn ht fun v hm hid=>?_
  have hkl:=bg v
  have hvu:=dA hm
  exact yX _ _ p v ((mz l) v) (g9 hb v) hid (by omega) (jT hb (by kernel_rfl) (by kernel_rfl) (Yq v l))
theorem O3(p:PId)(l:List PWord)(u:TUnit)(hn:nU u<=2^19)(ht:∀x,x∈bU u->x.head.length<2^30/\x.words.length<2^30):
    kP 174 [eU u,aV p,.func (.func 181) [] [.pptr [.ls (l.map aQ)] 0 0]] (eU (cW p (mz l) u)):=by
  have hb:aq [.pptr [.ls (l.map aQ)] 0 0]=0:=by kernel_rfl
  refine oP _ _ p (mz l) hb u hn ht fun v hm hid=>?_
  have hkl:=bg v
  have hvu:=dA hm
  exact yX _ _ p v ((mz l) v) (g9 hb v) hid (by omega) (jT hb (by kernel_rfl) (by kernel_rfl) (YD v l))
theorem O6(p:PId)(l:List PWord)(u:TUnit)(hn:nU u<=2^19)(ht:∀x,x∈bU u->x.head.length<2^30/\x.words.length<2^30):
    kP 174 [eU u,aV p,.func (.func 183) [] [.pptr [.ls (l.map aQ)] 0 0]] (eU (cW p (Aq l) u)):=by
  have hb:aq [.pptr [.ls (l.map aQ)] 0 0]=0:=by kernel_rfl
  refine oP _ _ p (Aq l) hb u hn ht fun v hm hid=>?_
  have hkl:=bg v
  have hvu:=dA hm
  exact yX _ _ p v ((Aq l) v) (g9 hb v) hid (by omega) (jT hb (by kernel_rfl) (by kernel_rfl) (ZW v l))
theorem O2(p:PId)(d:PDeed)(u:TUnit)(hn:nU u<=2^19)(ht:∀x,x∈bU u->x.head.length<2^30/\x.words.length<2^30):
    kP 174 [eU u,aV p,.func (.func 185) [] [.pptr [aK d] 0 0]] (eU (cW p (pj d.it.label) u)):=by
  have hb:aq [.pptr [aK d] 0 0]=0:=by kernel_rfl
  refine oP _ _ p (pj d.it.label) hb u hn ht fun v hm hid=>?_
  have hkl:=bg v
  have hvu:=dA hm
  exact yX _ _ p v ((pj d.it.label) v) (g9 hb v) hid (by omega) (jT hb (by kernel_rfl) (by kernel_rfl) (YB v d))
end Go.Proofs.YtdhkhecalpkngaaGreatDoor
